/- Joined of my own texts: TyC, TyD, TyE, TyH, SubP, SubA, FwX, SubD, SubF, TyK, SubG, SubS, UnP. -/
import Derived.Test.YtinolpaapcpijaaGreatDoorQ15
import Derived.Shelf.SlSortCmp.NoneTotal
namespace Go.Sy
open Go Go.Proofs Go.RowKit
theorem made_refs {l : List Ty} {t : Ty} (hk : kidsP l t) (hl : (t.kids.length : Int) ≤ 16) (hn : t.kind ≠ 8 → t.name = []) (hw : t.kind ≠ 6 → t.kind ≠ 7 → t.words = []) (hK : madeK l t) : madeP l t := ⟨hk, by omega, hn, hw, hK⟩
theorem made_noname {l : List Ty} {t : Ty} (h : t.kind ≠ 8) (hn : t.name ≠ []) : ¬ madeP l t := fun e => hn (e.2.2.1 h)
theorem made_nowords {l : List Ty} {t : Ty} (h6 : t.kind ≠ 6) (h7 : t.kind ≠ 7) (hn : (0 : Int) < t.words.length) : ¬ madeP l t := fun e => by rw [e.2.2.2.1 h6 h7] at hn; exact absurd hn (by decide)
theorem made_kid {l : List Ty} {t : Ty} {q : Nat} (hq : q < t.kids.length) (h : t.kids[q] < 0 ∨ t.kids[q] ≥ l.length) : ¬ madeP l t := fun e => by
  have := e.1 _ (List.getElem_mem hq)
  omega
theorem at_mem {l : List Ty} {t : Ty} {q : Nat} (hq : q < l.length) (h : l[q] = t) : t ∈ l := h ▸ List.getElem_mem hq
theorem at_no {l : List Ty} {t : Ty} (h : ∀ j (hj : j < l.length), l[j] ≠ t) : t ∉ l := fun hm => by
  obtain ⟨j, hj, e⟩ := List.getElem_of_mem hm
  exact h j hj e
def atP (l : List Ty) (t : Ty) (i : Int) : Prop := (i = -1 ∧ t ∉ l) ∨ ∃ q : Nat, ∃ (hq : q < l.length), i = (q : Int) ∧ l[q] = t ∧ ∀ j (hj : j < l.length), j < q → l[j] ≠ t
theorem at_out {l : List Ty} {t : Ty} {i : Int} (h : atP l t i) (hi : i < 0) : t ∉ l := by
  rcases h with ⟨_, h⟩ | ⟨q, _, rfl, _⟩
  · exact h
  omega
theorem at_in {l : List Ty} {t : Ty} {i : Int} (h : atP l t i) (hi : 0 ≤ i) : t ∈ l := by
  rcases h with ⟨rfl, _⟩ | ⟨q, hq, _, e, _⟩
  · exact absurd hi (by decide)
  exact at_mem hq e
theorem row_like {l : List Ty} {q : Nat} (hq : q < l.length) (h8 : q < startL.length) (hc : l[q] = startL[q]) : rowAt l q hq := by
  have hsl := start_len
  unfold rowAt
  rw [if_pos Jb, start_get h8]
  exact hc
theorem row_unlike {l : List Ty} (e : rightP l) {q : Nat} (hq : q < l.length) (h8 : q < startL.length) (hc : l[q] ≠ startL[q]) : False := by
  have h := e.2.2 q hq
  have hsl := start_len
  unfold rowAt at h
  rw [if_pos Jb, start_get h8] at h
  exact hc h
attribute [local irreducible] AC AT AO AK AH ACalls Sub Res.cells Res.obj Res.nix Res.own Res.map Exit.then Exit.inBlock bodyPost Code.wp Code.wpIn WL Next Post Kont
section
variable {W0 : World} {L : List Res} {F : List Fact} {R : Value → List Res → List Fact → Prop}
set_option maxRecDepth 100000
set_option maxHeartbeats 4000000
theorem rmade_c (l : List Ty) (t : Ty) (ht : TyOk t) {a1 a2 a3 : Option Addr} {k1 c1 k2 c2 k3 c3 : Nat} (m1 : fW t a1 k1 c1 ∈ F) (m2 : fK t a2 k2 c2 ∈ F) (m3 : fL l a3 k3 c3 ∈ F)
    (hT : madeP l t → R (.bool true) L F) (hF : ¬ madeP l t → R (.bool false) L F) : ACalls Tryz.prog W0 117 #[.slice a3 k3 c3, vTy t a1 k1 c1 a2 k2 c2] L F R := by
  have hnm := ht.name
  refine Gg Tryz.func117 HZ Tryz.ntmps117 HZ ?_
  refine qs 2 ?_
  refine Ga (GL HZ HZ (fun b3 => ?_))
  refine qs 8 ?_
  refine Ga (Gt HZ HZ (fun hl10 => ?_) (hm := by repeat (first | exact mem0 | assumption | refine memS ?_)))
  refine qs 4 ?_
  refine AC.loopC (fun (q : Nat) => q ≤ t.kids.length ∧ ∀ j (hj : j < t.kids.length), j < q → 0 ≤ t.kids[j] ∧ t.kids[j] < l.length) (fun q => [(0, .slice a3 k3 c3), (3, .pointer (some ⟨b3, 0, none⟩)), (9, .slice a2 k2 c2), (10, .int .i64 t.kids.length), (11, .int .i64 (q : Int))]) (fun q => t.kids.length - q) 0 ⟨by omega, by omega⟩ srA ?_
  rintro q ⟨hq, hok⟩
  refine qs 2 ?_
  refine Ga (Gw HZ HZ HZ (fun c12 => ?_) (fun c12 => ?_))
  ·refine qs 10 ?_
   have hql : q < t.kids.length := by omega
   refine Ga (Gd HZ HZ HZ HZ memA hql (fun _ _ => ?_))
   refine Ga (Gs HZ HZ ?_)
   intros
   refine qs 6 ?_
   refine Ga (Gw HZ HZ HZ (fun c16 => ?_) (fun c16 => ?_))
   ·refine qs 20 ?_
    first | refine Gb (L' := L) (F' := F) Tryz.results117 HZ subA (hT ?_) | refine Gb (L' := L) (F' := F) Tryz.results117 HZ subA (hF ?_)
    first
    | exact made_long Jb
    | exact made_kid hql Jb
    | exact made_noname c32 c36
    | exact made_nowords c42 c46 Jb
    | exact GV (madeK_no c58 c59 c68 c82 c91 c105 c114 c119 c129)
   refine qs 3 ?_
   refine Gc HZ HZ (Gt HZ HZ (fun hl20 => ?_) (hm := by repeat (first | exact mem0 | assumption | refine memS ?_)))
   refine Gc HZ HZ (GY HZ HZ HZ (fun c21 => ?_) (fun c21 => ?_))
   ·refine qs 15 ?_
    first | refine Gb (L' := L) (F' := F) Tryz.results117 HZ subA (hT ?_) | refine Gb (L' := L) (F' := F) Tryz.results117 HZ subA (hF ?_)
    first
    | exact made_long Jb
    | exact made_kid hql Jb
    | exact made_noname c32 c36
    | exact made_nowords c42 c46 Jb
    | exact GV (madeK_no c58 c59 c68 c82 c91 c105 c114 c119 c129)
   refine qs 11 ?_
   refine Gk (q + 1) ⟨by omega, ?_⟩ Jb srA subF
   intro j hj hjq
   rcases Nat.lt_succ_iff_lt_or_eq.1 hjq with k9 | rfl
   · exact hok j hj k9
   omega
  refine qs 11 ?_
  have hkids : kidsP l t := by
   intro k hk
   obtain ⟨j, hj, rfl⟩ := List.getElem_of_mem hk
   exact hok j hj Jb
  refine Ga (AO.field HZ HZ ?_)
  refine qs 1 ?_
  refine Ga (Gt HZ HZ (fun hl26 => ?_) (hm := by repeat (first | exact mem0 | assumption | refine memS ?_)))
  refine qs 5 ?_
  refine AC.cut (fun (_ : PLift (((t.kids.length : Int) ≤ 16) ∧ (t.kind ≠ 8 → t.name = []) ∧ (t.kind ≠ 6 → t.kind ≠ 7 → t.words = []))) _ => [(0, .slice a3 k3 c3), (3, .pointer (some ⟨b3, 0, none⟩)), (7, .int .i64 t.kids.length), (54, .bool false)]) (fun _ L => L) (fun _ F => F) ?_ (fun key => ?_)
  ·rintro ⟨hl16, hn, hw⟩
   refine qs 15 ?_
   refine Ga (Gr HZ HZ HZ (fun c58 => ?_) (fun c58 => ?_))
   ·refine qs 11 ?_
    refine Ga (Gr HZ HZ HZ (fun c62 => ?_) (fun c62 => ?_))
    ·refine qs 2 ?_
     refine Gc HZ HZ (Gr HZ HZ HZ (fun c65 => ?_) (fun c65 => ?_))
     ·refine qs 7 ?_
      first | refine Gb (L' := L) (F' := F) Tryz.results117 HZ subA (hT ?_) | refine Gb (L' := L) (F' := F) Tryz.results117 HZ subA (hF ?_)
      first
      | exact made_refs hkids hl16 hn hw ((madeK_1 c58).2 Jb)
      | (refine GV (fun e => ?_); have e := (madeK_1 c58).1 e; omega)
     refine qs 7 ?_
     first | refine Gb (L' := L) (F' := F) Tryz.results117 HZ subA (hT ?_) | refine Gb (L' := L) (F' := F) Tryz.results117 HZ subA (hF ?_)
     first
     | exact made_refs hkids hl16 hn hw ((madeK_1 c58).2 Jb)
     | (refine GV (fun e => ?_); have e := (madeK_1 c58).1 e; omega)
    refine qs 10 ?_
    first | refine Gb (L' := L) (F' := F) Tryz.results117 HZ subA (hT ?_) | refine Gb (L' := L) (F' := F) Tryz.results117 HZ subA (hF ?_)
    first
    | exact made_refs hkids hl16 hn hw ((madeK_1 c58).2 Jb)
    | (refine GV (fun e => ?_); have e := (madeK_1 c58).1 e; omega)
   refine qs 5 ?_
   refine Ga (Gr HZ HZ HZ (fun c59 => ?_) (fun c59 => ?_))
   ·refine qs 8 ?_
    refine Ga (Gr HZ HZ HZ (fun c62 => ?_) (fun c62 => ?_))
    ·refine qs 2 ?_
     refine Gc HZ HZ (Gr HZ HZ HZ (fun c65 => ?_) (fun c65 => ?_))
     ·refine qs 7 ?_
      first | refine Gb (L' := L) (F' := F) Tryz.results117 HZ subA (hT ?_) | refine Gb (L' := L) (F' := F) Tryz.results117 HZ subA (hF ?_)
      first
      | exact made_refs hkids hl16 hn hw ((madeK_2 c59).2 Jb)
      | (refine GV (fun e => ?_); have e := (madeK_2 c59).1 e; omega)
     refine qs 7 ?_
     first | refine Gb (L' := L) (F' := F) Tryz.results117 HZ subA (hT ?_) | refine Gb (L' := L) (F' := F) Tryz.results117 HZ subA (hF ?_)
     first
     | exact made_refs hkids hl16 hn hw ((madeK_2 c59).2 Jb)
     | (refine GV (fun e => ?_); have e := (madeK_2 c59).1 e; omega)
    refine qs 10 ?_
    first | refine Gb (L' := L) (F' := F) Tryz.results117 HZ subA (hT ?_) | refine Gb (L' := L) (F' := F) Tryz.results117 HZ subA (hF ?_)
    first
    | exact made_refs hkids hl16 hn hw ((madeK_2 c59).2 Jb)
    | (refine GV (fun e => ?_); have e := (madeK_2 c59).1 e; omega)
   refine qs 6 ?_
   refine Ga (Gr HZ HZ HZ (fun c68 => ?_) (fun c68 => ?_))
   ·refine qs 8 ?_
    refine Ga (GY HZ HZ HZ (fun c71 => ?_) (fun c71 => ?_))
    ·refine qs 3 ?_
     refine Gc HZ HZ (HG HZ HZ HZ (fun c75 => ?_) (fun c75 => ?_))
     ·refine qs 3 ?_
      refine Gc HZ HZ (Gr HZ HZ HZ (fun c79 => ?_) (fun c79 => ?_))
      ·refine qs 7 ?_
       first | refine Gb (L' := L) (F' := F) Tryz.results117 HZ subA (hT ?_) | refine Gb (L' := L) (F' := F) Tryz.results117 HZ subA (hF ?_)
       first
       | exact made_refs hkids hl16 hn hw ((madeK_3 c68).2 Jb)
       | (refine GV (fun e => ?_); have e := (madeK_3 c68).1 e; omega)
      refine qs 7 ?_
      first | refine Gb (L' := L) (F' := F) Tryz.results117 HZ subA (hT ?_) | refine Gb (L' := L) (F' := F) Tryz.results117 HZ subA (hF ?_)
      first
      | exact made_refs hkids hl16 hn hw ((madeK_3 c68).2 Jb)
      | (refine GV (fun e => ?_); have e := (madeK_3 c68).1 e; omega)
     refine qs 11 ?_
     first | refine Gb (L' := L) (F' := F) Tryz.results117 HZ subA (hT ?_) | refine Gb (L' := L) (F' := F) Tryz.results117 HZ subA (hF ?_)
     first
     | exact made_refs hkids hl16 hn hw ((madeK_3 c68).2 Jb)
     | (refine GV (fun e => ?_); have e := (madeK_3 c68).1 e; omega)
    refine qs 15 ?_
    first | refine Gb (L' := L) (F' := F) Tryz.results117 HZ subA (hT ?_) | refine Gb (L' := L) (F' := F) Tryz.results117 HZ subA (hF ?_)
    first
    | exact made_refs hkids hl16 hn hw ((madeK_3 c68).2 Jb)
    | (refine GV (fun e => ?_); have e := (madeK_3 c68).1 e; omega)
   refine qs 6 ?_
   refine Ga (Gr HZ HZ HZ (fun c82 => ?_) (fun c82 => ?_))
   ·refine qs 8 ?_
    refine Ga (Gr HZ HZ HZ (fun c85 => ?_) (fun c85 => ?_))
    ·refine qs 2 ?_
     refine Gc HZ HZ (Gr HZ HZ HZ (fun c88 => ?_) (fun c88 => ?_))
     ·refine qs 7 ?_
      first | refine Gb (L' := L) (F' := F) Tryz.results117 HZ subA (hT ?_) | refine Gb (L' := L) (F' := F) Tryz.results117 HZ subA (hF ?_)
      first
      | exact made_refs hkids hl16 hn hw ((madeK_4 c82).2 Jb)
      | (refine GV (fun e => ?_); have e := (madeK_4 c82).1 e; omega)
     refine qs 7 ?_
     first | refine Gb (L' := L) (F' := F) Tryz.results117 HZ subA (hT ?_) | refine Gb (L' := L) (F' := F) Tryz.results117 HZ subA (hF ?_)
     first
     | exact made_refs hkids hl16 hn hw ((madeK_4 c82).2 Jb)
     | (refine GV (fun e => ?_); have e := (madeK_4 c82).1 e; omega)
    refine qs 10 ?_
    first | refine Gb (L' := L) (F' := F) Tryz.results117 HZ subA (hT ?_) | refine Gb (L' := L) (F' := F) Tryz.results117 HZ subA (hF ?_)
    first
    | exact made_refs hkids hl16 hn hw ((madeK_4 c82).2 Jb)
    | (refine GV (fun e => ?_); have e := (madeK_4 c82).1 e; omega)
   refine qs 6 ?_
   refine Ga (Gr HZ HZ HZ (fun c91 => ?_) (fun c91 => ?_))
   ·refine qs 8 ?_
    refine Ga (Gr HZ HZ HZ (fun c94 => ?_) (fun c94 => ?_))
    ·refine qs 15 ?_
     first | refine Gb (L' := L) (F' := F) Tryz.results117 HZ subA (hT ?_) | refine Gb (L' := L) (F' := F) Tryz.results117 HZ subA (hF ?_)
     first
     | exact made_refs hkids hl16 hn hw ((madeK_5 c91).2 Jb)
     | (refine GV (fun e => ?_); have e := (madeK_5 c91).1 e; omega)
    refine qs 3 ?_
    refine Gc HZ HZ (Gr HZ HZ HZ (fun c98 => ?_) (fun c98 => ?_))
    ·refine qs 2 ?_
     refine Gc HZ HZ (Hv HZ HZ HZ (fun c101 => ?_) (fun c101 => ?_))
     ·refine qs 8 ?_
      first | refine Gb (L' := L) (F' := F) Tryz.results117 HZ subA (hT ?_) | refine Gb (L' := L) (F' := F) Tryz.results117 HZ subA (hF ?_)
      first
      | exact made_refs hkids hl16 hn hw ((madeK_5 c91).2 Jb)
      | (refine GV (fun e => ?_); have e := (madeK_5 c91).1 e; omega)
     refine qs 8 ?_
     first | refine Gb (L' := L) (F' := F) Tryz.results117 HZ subA (hT ?_) | refine Gb (L' := L) (F' := F) Tryz.results117 HZ subA (hF ?_)
     first
     | exact made_refs hkids hl16 hn hw ((madeK_5 c91).2 Jb)
     | (refine GV (fun e => ?_); have e := (madeK_5 c91).1 e; omega)
    refine qs 11 ?_
    first | refine Gb (L' := L) (F' := F) Tryz.results117 HZ subA (hT ?_) | refine Gb (L' := L) (F' := F) Tryz.results117 HZ subA (hF ?_)
    first
    | exact made_refs hkids hl16 hn hw ((madeK_5 c91).2 Jb)
    | (refine GV (fun e => ?_); have e := (madeK_5 c91).1 e; omega)
   refine qs 6 ?_
   refine Ga (Gr HZ HZ HZ (fun c105 => ?_) (fun c105 => ?_))
   ·refine qs 8 ?_
    refine Ga (Gr HZ HZ HZ (fun c108 => ?_) (fun c108 => ?_))
    ·refine qs 2 ?_
     refine Gc HZ HZ (Ge HZ HZ (rfields_c t ht memA memA (fun c111 => ?_) (fun c111 => ?_)))
     ·refine qs 7 ?_
      first | refine Gb (L' := L) (F' := F) Tryz.results117 HZ subA (hT ?_) | refine Gb (L' := L) (F' := F) Tryz.results117 HZ subA (hF ?_)
      first
      | exact made_refs hkids hl16 hn hw ((HY c105).2 ⟨c108, c111.1, c111.2⟩)
      | exact GV (fun e => c111 ⟨((HY c105).1 e).2.1, ((HY c105).1 e).2.2⟩)
      | exact GV (fun e => c108 ((HY c105).1 e).1)
     refine qs 7 ?_
     first | refine Gb (L' := L) (F' := F) Tryz.results117 HZ subA (hT ?_) | refine Gb (L' := L) (F' := F) Tryz.results117 HZ subA (hF ?_)
     first
     | exact made_refs hkids hl16 hn hw ((HY c105).2 ⟨c108, c111.1, c111.2⟩)
     | exact GV (fun e => c111 ⟨((HY c105).1 e).2.1, ((HY c105).1 e).2.2⟩)
     | exact GV (fun e => c108 ((HY c105).1 e).1)
    refine qs 10 ?_
    first | refine Gb (L' := L) (F' := F) Tryz.results117 HZ subA (hT ?_) | refine Gb (L' := L) (F' := F) Tryz.results117 HZ subA (hF ?_)
    first
    | exact made_refs hkids hl16 hn hw ((HY c105).2 ⟨c108, c111.1, c111.2⟩)
    | exact GV (fun e => c111 ⟨((HY c105).1 e).2.1, ((HY c105).1 e).2.2⟩)
    | exact GV (fun e => c108 ((HY c105).1 e).1)
   refine qs 6 ?_
   refine Ga (Gr HZ HZ HZ (fun c114 => ?_) (fun c114 => ?_))
   ·refine qs 8 ?_
    refine Ga (Ge HZ HZ (relems_c l t ht hkids memA memA memA (fun c117 => ?_) (fun c117 => ?_)))
    ·refine qs 6 ?_
     first | refine Gb (L' := L) (F' := F) Tryz.results117 HZ subA (hT ?_) | refine Gb (L' := L) (F' := F) Tryz.results117 HZ subA (hF ?_)
     first
     | exact made_refs hkids hl16 hn hw ((madeK_7 c114).2 c117)
     | exact GV (fun e => c117 ((madeK_7 c114).1 e))
    refine qs 6 ?_
    first | refine Gb (L' := L) (F' := F) Tryz.results117 HZ subA (hT ?_) | refine Gb (L' := L) (F' := F) Tryz.results117 HZ subA (hF ?_)
    first
    | exact made_refs hkids hl16 hn hw ((madeK_7 c114).2 c117)
    | exact GV (fun e => c117 ((madeK_7 c114).1 e))
   refine qs 6 ?_
   refine Ga (Gr HZ HZ HZ (fun c119 => ?_) (fun c119 => ?_))
   ·refine qs 8 ?_
    refine Ga (Gr HZ HZ HZ (fun c122 => ?_) (fun c122 => ?_))
    ·refine qs 3 ?_
     refine Gc HZ HZ (Ge HZ HZ (rnamed_c t.name Jb (fun c126 => ?_) (fun c126 => ?_)))
     ·refine qs 7 ?_
      first | refine Gb (L' := L) (F' := F) Tryz.results117 HZ subA (hT ?_) | refine Gb (L' := L) (F' := F) Tryz.results117 HZ subA (hF ?_)
      first
      | exact made_refs hkids hl16 hn hw ((madeK_8 c119).2 ⟨c122, c126⟩)
      | exact GV (fun e => c126 ((madeK_8 c119).1 e).2)
      | exact GV (fun e => c122 ((madeK_8 c119).1 e).1)
     refine qs 7 ?_
     first | refine Gb (L' := L) (F' := F) Tryz.results117 HZ subA (hT ?_) | refine Gb (L' := L) (F' := F) Tryz.results117 HZ subA (hF ?_)
     first
     | exact made_refs hkids hl16 hn hw ((madeK_8 c119).2 ⟨c122, c126⟩)
     | exact GV (fun e => c126 ((madeK_8 c119).1 e).2)
     | exact GV (fun e => c122 ((madeK_8 c119).1 e).1)
    refine qs 11 ?_
    first | refine Gb (L' := L) (F' := F) Tryz.results117 HZ subA (hT ?_) | refine Gb (L' := L) (F' := F) Tryz.results117 HZ subA (hF ?_)
    first
    | exact made_refs hkids hl16 hn hw ((madeK_8 c119).2 ⟨c122, c126⟩)
    | exact GV (fun e => c126 ((madeK_8 c119).1 e).2)
    | exact GV (fun e => c122 ((madeK_8 c119).1 e).1)
   refine qs 6 ?_
   refine Ga (Gr HZ HZ HZ (fun c129 => ?_) (fun c129 => ?_))
   ·refine qs 8 ?_
    refine Ga (GY HZ HZ HZ (fun c132 => ?_) (fun c132 => ?_))
    ·refine qs 3 ?_
     refine Gc HZ HZ (Gw HZ HZ HZ (fun c136 => ?_) (fun c136 => ?_))
     ·refine qs 3 ?_
      refine Gc HZ HZ (Gr HZ HZ HZ (fun c140 => ?_) (fun c140 => ?_))
      ·refine qs 7 ?_
       first | refine Gb (L' := L) (F' := F) Tryz.results117 HZ subA (hT ?_) | refine Gb (L' := L) (F' := F) Tryz.results117 HZ subA (hF ?_)
       first
       | exact made_refs hkids hl16 hn hw ((madeK_9 c129).2 Jb)
       | (refine GV (fun e => ?_); have e := (madeK_9 c129).1 e; omega)
      refine qs 7 ?_
      first | refine Gb (L' := L) (F' := F) Tryz.results117 HZ subA (hT ?_) | refine Gb (L' := L) (F' := F) Tryz.results117 HZ subA (hF ?_)
      first
      | exact made_refs hkids hl16 hn hw ((madeK_9 c129).2 Jb)
      | (refine GV (fun e => ?_); have e := (madeK_9 c129).1 e; omega)
     refine qs 11 ?_
     first | refine Gb (L' := L) (F' := F) Tryz.results117 HZ subA (hT ?_) | refine Gb (L' := L) (F' := F) Tryz.results117 HZ subA (hF ?_)
     first
     | exact made_refs hkids hl16 hn hw ((madeK_9 c129).2 Jb)
     | (refine GV (fun e => ?_); have e := (madeK_9 c129).1 e; omega)
    refine qs 15 ?_
    first | refine Gb (L' := L) (F' := F) Tryz.results117 HZ subA (hT ?_) | refine Gb (L' := L) (F' := F) Tryz.results117 HZ subA (hF ?_)
    first
    | exact made_refs hkids hl16 hn hw ((madeK_9 c129).2 Jb)
    | (refine GV (fun e => ?_); have e := (madeK_9 c129).1 e; omega)
   refine qs 13 ?_
   first | refine Gb (L' := L) (F' := F) Tryz.results117 HZ subA (hT ?_) | refine Gb (L' := L) (F' := F) Tryz.results117 HZ subA (hF ?_)
   first
   | exact made_long Jb
   | exact made_kid hql Jb
   | exact made_noname c32 c36
   | exact made_nowords c42 c46 Jb
   | exact GV (madeK_no c58 c59 c68 c82 c91 c105 c114 c119 c129)
  refine qs 2 ?_
  refine Ga (Hv HZ HZ HZ (fun c28 => ?_) (fun c28 => ?_))
  ·refine qs 36 ?_
   first | refine Gb (L' := L) (F' := F) Tryz.results117 HZ subA (hT ?_) | refine Gb (L' := L) (F' := F) Tryz.results117 HZ subA (hF ?_)
   first
   | exact made_long Jb
   | exact made_kid hql Jb
   | exact made_noname c32 c36
   | exact made_nowords c42 c46 Jb
   | exact GV (madeK_no c58 c59 c68 c82 c91 c105 c114 c119 c129)
  refine qs 3 ?_
  refine Gc HZ HZ (GG HZ HZ HZ (fun c32 => ?_) (fun c32 => ?_))
  ·refine qs 3 ?_
   refine Gc HZ HZ (AO.neqS HZ HZ HZ (fun c36 => ?_) (fun c36 => ?_))
   ·refine qs 28 ?_
    first | refine Gb (L' := L) (F' := F) Tryz.results117 HZ subA (hT ?_) | refine Gb (L' := L) (F' := F) Tryz.results117 HZ subA (hF ?_)
    first
    | exact made_long Jb
    | exact made_kid hql Jb
    | exact made_noname c32 c36
    | exact made_nowords c42 c46 Jb
    | exact GV (madeK_no c58 c59 c68 c82 c91 c105 c114 c119 c129)
   refine qs 5 ?_
   refine Gc HZ HZ (GG HZ HZ HZ (fun c42 => ?_) (fun c42 => ?_))
   ·refine qs 3 ?_
    refine Gc HZ HZ (GG HZ HZ HZ (fun c46 => ?_) (fun c46 => ?_))
    ·refine qs 4 ?_
     refine Gc HZ HZ (Gt HZ HZ (fun hl51 => ?_) (hm := by repeat (first | exact mem0 | assumption | refine memS ?_)))
     refine Gc HZ HZ (Hv HZ HZ HZ (fun c52 => ?_) (fun c52 => ?_))
     ·refine qs 12 ?_
      first | refine Gb (L' := L) (F' := F) Tryz.results117 HZ subA (hT ?_) | refine Gb (L' := L) (F' := F) Tryz.results117 HZ subA (hF ?_)
      first
      | exact made_long Jb
      | exact made_kid hql Jb
      | exact made_noname c32 c36
      | exact made_nowords c42 c46 Jb
      | exact GV (madeK_no c58 c59 c68 c82 c91 c105 c114 c119 c129)
     refine qs 3 ?_
     exact HH srA (Gf _ _) (key ⟨⟨by omega, by first | exact fun _ => c36 | exact fun h => absurd c32 h, by first | exact fun h _ => absurd c42 h | exact fun _ h => absurd c46 h | exact fun _ _ => List.eq_nil_of_length_eq_zero Jb⟩⟩)
    refine qs 9 ?_
    exact HH srA (Gf _ _) (key ⟨⟨by omega, by first | exact fun _ => c36 | exact fun h => absurd c32 h, by first | exact fun h _ => absurd c42 h | exact fun _ h => absurd c46 h | exact fun _ _ => List.eq_nil_of_length_eq_zero Jb⟩⟩)
   refine qs 13 ?_
   exact HH srA (Gf _ _) (key ⟨⟨by omega, by first | exact fun _ => c36 | exact fun h => absurd c32 h, by first | exact fun h _ => absurd c42 h | exact fun _ h => absurd c46 h | exact fun _ _ => List.eq_nil_of_length_eq_zero Jb⟩⟩)
  refine qs 9 ?_
  refine Gc HZ HZ (GG HZ HZ HZ (fun c42 => ?_) (fun c42 => ?_))
  ·refine qs 3 ?_
   refine Gc HZ HZ (GG HZ HZ HZ (fun c46 => ?_) (fun c46 => ?_))
   ·refine qs 4 ?_
    refine Gc HZ HZ (Gt HZ HZ (fun hl51 => ?_) (hm := by repeat (first | exact mem0 | assumption | refine memS ?_)))
    refine Gc HZ HZ (Hv HZ HZ HZ (fun c52 => ?_) (fun c52 => ?_))
    ·refine qs 12 ?_
     first | refine Gb (L' := L) (F' := F) Tryz.results117 HZ subA (hT ?_) | refine Gb (L' := L) (F' := F) Tryz.results117 HZ subA (hF ?_)
     first
     | exact made_long Jb
     | exact made_kid hql Jb
     | exact made_noname c32 c36
     | exact made_nowords c42 c46 Jb
     | exact GV (madeK_no c58 c59 c68 c82 c91 c105 c114 c119 c129)
    refine qs 3 ?_
    exact HH srA (Gf _ _) (key ⟨⟨by omega, by first | exact fun _ => c36 | exact fun h => absurd c32 h, by first | exact fun h _ => absurd c42 h | exact fun _ h => absurd c46 h | exact fun _ _ => List.eq_nil_of_length_eq_zero Jb⟩⟩)
   refine qs 9 ?_
   exact HH srA (Gf _ _) (key ⟨⟨by omega, by first | exact fun _ => c36 | exact fun h => absurd c32 h, by first | exact fun h _ => absurd c42 h | exact fun _ h => absurd c46 h | exact fun _ _ => List.eq_nil_of_length_eq_zero Jb⟩⟩)
  refine qs 13 ?_
  exact HH srA (Gf _ _) (key ⟨⟨by omega, by first | exact fun _ => c36 | exact fun h => absurd c32 h, by first | exact fun h _ => absurd c42 h | exact fun _ h => absurd c46 h | exact fun _ _ => List.eq_nil_of_length_eq_zero Jb⟩⟩)
theorem rat_c (l : List Ty) (t : Ty) {a1 a2 a3 : Option Addr} {k1 c1 k2 c2 k3 c3 : Nat} (m1 : fW t a1 k1 c1 ∈ F) (m2 : fK t a2 k2 c2 ∈ F) (m3 : fL l a3 k3 c3 ∈ F)
    (h : ∀ i, atP l t i → R (.int .i64 i) L F) : ACalls Tryz.prog W0 118 #[.slice a3 k3 c3, vTy t a1 k1 c1 a2 k2 c2] L F R := by
  refine Gg Tryz.func118 HZ Tryz.ntmps118 HZ ?_
  refine qs 2 ?_
  refine Ga (GL HZ HZ (fun b3 => ?_))
  refine qs 7 ?_
  refine Ga (Gt HZ HZ (fun hl8 => ?_) (hm := by repeat (first | exact mem0 | assumption | refine memS ?_)))
  refine qs 4 ?_
  refine AC.loopC (fun (q : Nat) => q ≤ l.length ∧ ∀ j (hj : j < l.length), j < q → l[j] ≠ t) (fun q => [(3, .pointer (some ⟨b3, 0, none⟩)), (7, .slice a3 k3 c3), (8, .int .i64 l.length), (9, .int .i64 (q : Int))]) (fun q => l.length - q) 0 ⟨by omega, by omega⟩ srA ?_
  rintro q ⟨hq, hok⟩
  refine qs 2 ?_
  refine Ga (Gw HZ HZ HZ (fun c10 => ?_) (fun c10 => ?_))
  ·refine qs 11 ?_
   have hql : q < l.length := by omega
   refine Ga (Gd HZ HZ HZ HZ memA hql (fun _ _ => ?_))
   refine Ga (GN HZ HZ ?_)
   intro a13 k13 z13 d13 e13 f13
   refine Ga (Gj HZ (fun b6 => ?_))
   refine qs 8 ?_
   refine Ga (Ge HZ HZ (ref_Like_c l[q] t (fun c16 => ?_) (fun c16 => ?_) memA memA memA memA))
   ·refine qs 15 ?_
    first | exact Gb (L' := L) (F' := F) Tryz.results118 rfl subA (h _ (Or.inr ⟨q, hql, rfl, c16, hok⟩)) | exact Gb (L' := L) (F' := F) Tryz.results118 rfl subA (h _ (Or.inl ⟨rfl, at_no (fun j hj => hok j hj Jb)⟩))
   refine qs 10 ?_
   refine Gk (q + 1) ⟨by omega, ?_⟩ Jb srA (Sub.drop.trans subF)
   intro j hj hjq
   rcases Nat.lt_succ_iff_lt_or_eq.1 hjq with k9 | rfl
   · exact hok j hj k9
   exact c16
  refine qs 15 ?_
  first | exact Gb (L' := L) (F' := F) Tryz.results118 rfl subA (h _ (Or.inr ⟨q, hql, rfl, c16, hok⟩)) | exact Gb (L' := L) (F' := F) Tryz.results118 rfl subA (h _ (Or.inl ⟨rfl, at_no (fun j hj => hok j hj Jb)⟩))
theorem rnames_c (h : ∀ b, R (.slice (some ⟨b, 0, none⟩) 20 20) L (.slc (.slice (some ⟨b, 0, none⟩) 20 20) 1 (startNames.map eS) :: F)) : ACalls Tryz.prog W0 108 #[] L F R := by
  refine Gg Tryz.func108 HZ Tryz.ntmps108 HZ ?_
  refine qs 7 ?_
  refine Ga (Gl HZ HZ HZ HZ HZ (fun b4 => ?_))
  refine GH (GI (Hg (i := 0) (enc := eS) (sz := 1) startNames HZ (cells_S startNames) (fun _ => rfl) HZ (by decide)) Gv) ?_
  refine qs 4 ?_
  exact Gb Tryz.results108 rfl (Gf _ _) (h _)
theorem rstart_c (h : ∀ a k c, R (.slice a k c) L (fL startL a k c :: F)) : ACalls Tryz.prog W0 50 #[] L F R := by
  refine Gg Tryz.func50 HZ Tryz.ntmps50 HZ ?_
  refine qs 7 ?_
  refine Ga (He HZ (fun b4 => ?_))
  refine GH (GI (Hz (i := 0) (k := 0) (sz := 5) (enc := eTy) [] HZ .nil (fun _ => rfl) HZ (by decide)) (Hr (sz := 1))) ?_
  refine qs 6 ?_
  refine Ga (Ge HZ HZ (rnames_c (fun b5 => ?_)))
  refine Ga (Gt HZ HZ (fun hl6 => ?_) (hm := by repeat (first | exact mem0 | assumption | refine memS ?_)))
  refine qs 4 ?_
  refine GB (fun (i : Nat × Option Addr × Nat × Nat) => i.1 ≤ startNames.length) (fun i => [(1, .slice i.2.1 i.2.2.1 i.2.2.2), (5, .slice (some ⟨b5, 0, none⟩) 20 20), (6, .int .i64 startNames.length), (7, .int .i64 (i.1 : Int))]) (fun i => Res.own (.slice i.2.1 i.2.2.1 i.2.2.2) 29 5 (((startNames.take i.1).map basicT).map eTy) :: L) (fun _ => _) (fun i => startNames.length - i.1) (0, some ⟨b4, 0, none⟩, 0, 0) (by simp) srA (Gf _ _) ?_
  rintro ⟨q, a1, k1, c1⟩ hq
  simp only at hq ⊢
  refine qs 2 ?_
  refine Ga (Gw HZ HZ HZ (fun c8 => ?_) (fun c8 => ?_))
  ·refine qs 10 ?_
   have hql : q < startNames.length := by omega
   have hnl := names_len
   have htl : ((startNames.take q).map basicT).length = q := by simp; omega
   refine Ga (Gd HZ HZ HZ HZ memA hql (fun _ _ => ?_))
   refine Ga (Gs HZ HZ ?_)
   intros
   refine qs 6 ?_
   refine Ga (GO HZ HZ HZ ?_)
   refine Ga (Gl HZ HZ HZ HZ HZ (fun b13 => ?_))
   refine Ga (GJ (i := 0) (enc := eTy) (lst := (startNames.take q).map basicT) [basicT startNames[q]] HZ HZ HZ HZ (.val (.val (.val (.slc (.slc .nil memA) memA)))) HZ HZ (fun _ => rfl) (by rw [htl]; simp [maxLen]; omega) (by rw [htl]; omega) (fun a14 k14 c14 => ?_))
   rw [basic_step hql]
   refine qs 8 ?_
   refine Gk (q + 1, a14, k14, c14) (by simp only; omega) (by simp only; omega) srA subF
  refine qs 11 ?_
  refine Ga (HV HZ HZ ?_)
  have hall : startNames.take q = startNames := List.take_of_length_le Jb
  rw [hall]
  refine Ga (GO HZ HZ HZ (Ga (GO HZ HZ HZ ?_)))
  refine Ga (Gl HZ HZ HZ HZ HZ (fun b19 => ?_))
  refine Ga (GJ (i := 0) (enc := eTy) (lst := startNames.map basicT) [⟨7, [], 0, [], []⟩, ⟨7, [], 1, [], []⟩] HZ HZ HZ HZ (.val (.val (.val (.slc (.slc (.val (.val (.val (.slc (.slc .nil memA) memA)))) memA) memA)))) HZ HZ (fun _ => rfl) (by decide) (by decide) (fun a20 k20 c20 => ?_))
  refine qs 10 ?_
  refine Gb (L' := L) (F' := fL startL a20 k20 c20 :: F) Tryz.results50 HZ ?_ (h _ _ _)
  exact (Gz (i := 0) rfl).trans (Sub.drop.trans (GX (fun x hx => by repeat (first | exact hx | refine List.mem_cons_of_mem _ ?_))))
theorem rright_c (l : List Ty) (hok : ∀ t ∈ l, TyOk t) {a : Option Addr} {k c : Nat} (m1 : fL l a k c ∈ F) (hT : rightP l → R (.bool true) L F) (hF : ¬ rightP l → R (.bool false) L F) : ACalls Tryz.prog W0 63 #[.slice a k c] L F R := by
  refine Gg Tryz.func63 HZ Tryz.ntmps63 HZ ?_
  refine qs 7 ?_
  refine Ga (Ge HZ HZ (rstart_c (fun a8 k8 c8 => ?_)))
  have hsl := start_len
  refine qs 7 ?_
  refine Ga (Gt HZ HZ (fun hl8 => ?_) (hm := by repeat (first | exact mem0 | assumption | refine memS ?_)))
  refine qs 1 ?_
  refine Ga (Gt HZ HZ (fun hl10 => ?_) (hm := by repeat (first | exact mem0 | assumption | refine memS ?_)))
  refine Ga (Gw HZ HZ HZ (fun c11 => ?_) (fun c11 => ?_))
  ·refine qs 15 ?_
   first | refine Gb (L' := L) (F' := F) Tryz.results63 HZ subA (hT ?_) | refine Gb (L' := L) (F' := F) Tryz.results63 HZ subA (hF ?_)
   first
   | exact fun e => absurd e.2.1 Jb
   | exact fun e => absurd e.1 Jb
   | exact fun e => row_unlike e hql hq8 c33
   | exact fun e => row_nomade e hql Jb c39
   | exact fun e => Hy e q hql (at_in c46 Jb)
   | exact ⟨by omega, by omega, fun i hi => hrow i hi Jb⟩
  refine qs 2 ?_
  refine Gc HZ HZ (Gt HZ HZ (fun hl14 => ?_) (hm := by repeat (first | exact mem0 | assumption | refine memS ?_)))
  refine Gc HZ HZ (Hv HZ HZ HZ (fun c15 => ?_) (fun c15 => ?_))
  ·refine qs 11 ?_
   first | refine Gb (L' := L) (F' := F) Tryz.results63 HZ subA (hT ?_) | refine Gb (L' := L) (F' := F) Tryz.results63 HZ subA (hF ?_)
   first
   | exact fun e => absurd e.2.1 Jb
   | exact fun e => absurd e.1 Jb
   | exact fun e => row_unlike e hql hq8 c33
   | exact fun e => row_nomade e hql Jb c39
   | exact fun e => Hy e q hql (at_in c46 Jb)
   | exact ⟨by omega, by omega, fun i hi => hrow i hi Jb⟩
  refine qs 10 ?_
  refine Ga (Gt HZ HZ (fun hl18 => ?_) (hm := by repeat (first | exact mem0 | assumption | refine memS ?_)))
  refine qs 4 ?_
  refine AC.loopC (fun (q : Nat) => q ≤ l.length ∧ ∀ j (hj : j < l.length), j < q → rowAt l j hj) (fun q => [(0, .slice a k c), (3, .slice a8 k8 c8), (17, .slice a k c), (18, .int .i64 l.length), (19, .int .i64 (q : Int))]) (fun q => l.length - q) 0 ⟨by omega, by omega⟩ srA ?_
  rintro q ⟨hq, hrow⟩
  refine qs 2 ?_
  refine Ga (Gw HZ HZ HZ (fun c20 => ?_) (fun c20 => ?_))
  ·refine qs 11 ?_
   have hql : q < l.length := by omega
   refine Ga (Gd HZ HZ HZ HZ memA hql (fun _ _ => ?_))
   refine Ga (GN HZ HZ ?_)
   intro a26 k26 z26 d26 e26 f26
   refine Ga (Gj HZ (fun b5 => ?_))
   refine qs 8 ?_
   refine Ga (Gt HZ HZ (fun hl26 => ?_) (hm := by repeat (first | exact mem0 | assumption | refine memS ?_)))
   refine Ga (Gw HZ HZ HZ (fun c27 => ?_) (fun c27 => ?_))
   ·refine qs 4 ?_
    refine GP (fun _ => false) [(b5, _, _)] bxA HZ (fun hx hX => ?_)
    have hl8 := (Gu (hX (fL startL a8 k8 c8) memA)).1
    have hq8 : q < startL.length := by omega
    obtain ⟨p1, o1, rfl, at1⟩ := GA (hX (fL startL a8 k8 c8) memA) hq8
    obtain ⟨w1, x1, y1, w2, x2, y2, hv1, hw1, hw2⟩ := ty_cells at1
    refine Hx hw1 memA (Hx hw2 memA ?_)
    refine qt [0, 1, 2, 3] ?_
    refine GR (i := 4) HZ (HN HZ HZ hv1) Ja Ja HZ HZ HZ ?_
    refine Gm (i := 5) Ja HZ HZ (fun _ => ?_)
    refine Ge HZ HZ (ref_Like_c l[q] startL[q] (fun c33 => ?_) (fun c33 => ?_) memA memA memA memA)
    all_goals refine Gi bxA memB ?_
    ·refine qt [6] ?_
     refine Gq Ja ?_
     refine qs 9 ?_
     first
     | refine Gk (q + 1) ⟨by omega, rows_step hrow hql (row_like hql hq8 c33)⟩ Jb srA (Sub.drop.trans subF)
     | refine Gk (q + 1) ⟨by omega, rows_step hrow hql (row_made hql Jb c39 (at_out c46 Jb))⟩ Jb srA (Sub.drop.trans subF)
    refine qt [6] ?_
    refine Gq Ja ?_
    refine qs 13 ?_
    first | refine Gb (L' := L) (F' := F) Tryz.results63 HZ subA (hT ?_) | refine Gb (L' := L) (F' := F) Tryz.results63 HZ subA (hF ?_)
    first
    | exact fun e => absurd e.2.1 Jb
    | exact fun e => absurd e.1 Jb
    | exact fun e => row_unlike e hql hq8 c33
    | exact fun e => row_nomade e hql Jb c39
    | exact fun e => Hy e q hql (at_in c46 Jb)
    | exact ⟨by omega, by omega, fun i hi => hrow i hi Jb⟩
   refine qs 4 ?_
   refine GP (fun _ => false) [(b5, _, _)] bxA HZ (fun hx hX => ?_)
   have hll := (Gu (hX (fL l a k c) memA)).1
   have hlc := (Gu (hX (fL l a k c) memA)).2
   refine AH.weak (Sub.part (enc := eTy) (lst := l) 0 q c (show fL l a k c ∈ _ from memA) Jb Jb Jb Jb) ?_
   refine qt [0, 1] ?_
   refine GD (i := 2) HZ (Y.sliceH HZ HZ HZ Jb) Ja HZ HZ ?_
   refine qt [3] ?_
   refine Gm (i := 4) Ja HZ HZ (fun _ => ?_)
   refine Ge HZ HZ (rmade_c (l.take q) l[q] (hok _ (List.getElem_mem hql)) memA memA memA (fun c39 => ?_) (fun c39 => ?_))
   all_goals refine Gi bxA memB ?_
   ·refine qt [5, 6, 7, 8] ?_
    refine GD (i := 9) HZ (Y.sliceH HZ HZ HZ Jb) Ja HZ HZ ?_
    refine qt [10] ?_
    refine Gm (i := 11) Ja HZ HZ (fun _ => ?_)
    refine Ge HZ HZ (rat_c (l.take q) l[q] memA memA memA (fun i46 c46 => ?_))
    refine Gi bxA memB ?_
    refine Hf (i := 12) HZ (Y.geq HZ HZ) Ja HZ HZ (fun c47 => ?_) (fun c47 => ?_)
    ·replace c47 := of_decide_eq_true c47
     refine qt [13] ?_
     refine Gq Ja ?_
     refine qs 13 ?_
     first | refine Gb (L' := L) (F' := F) Tryz.results63 HZ subA (hT ?_) | refine Gb (L' := L) (F' := F) Tryz.results63 HZ subA (hF ?_)
     first
     | exact fun e => absurd e.2.1 Jb
     | exact fun e => absurd e.1 Jb
     | exact fun e => row_unlike e hql hq8 c33
     | exact fun e => row_nomade e hql Jb c39
     | exact fun e => Hy e q hql (at_in c46 Jb)
     | exact ⟨by omega, by omega, fun i hi => hrow i hi Jb⟩
    replace c47 := of_decide_eq_false c47
    refine qt [13] ?_
    refine Gq Ja ?_
    refine qs 9 ?_
    first
    | refine Gk (q + 1) ⟨by omega, rows_step hrow hql (row_like hql hq8 c33)⟩ Jb srA (Sub.drop.trans subF)
    | refine Gk (q + 1) ⟨by omega, rows_step hrow hql (row_made hql Jb c39 (at_out c46 Jb))⟩ Jb srA (Sub.drop.trans subF)
   refine qt [5, 6, 7, 8, 9, 10, 11, 12, 13] ?_
   refine Gq Ja ?_
   refine qs 13 ?_
   first | refine Gb (L' := L) (F' := F) Tryz.results63 HZ subA (hT ?_) | refine Gb (L' := L) (F' := F) Tryz.results63 HZ subA (hF ?_)
   first
   | exact fun e => absurd e.2.1 Jb
   | exact fun e => absurd e.1 Jb
   | exact fun e => row_unlike e hql hq8 c33
   | exact fun e => row_nomade e hql Jb c39
   | exact fun e => Hy e q hql (at_in c46 Jb)
   | exact ⟨by omega, by omega, fun i hi => hrow i hi Jb⟩
  refine qs 15 ?_
  first | refine Gb (L' := L) (F' := F) Tryz.results63 HZ subA (hT ?_) | refine Gb (L' := L) (F' := F) Tryz.results63 HZ subA (hF ?_)
  first
  | exact fun e => absurd e.2.1 Jb
  | exact fun e => absurd e.1 Jb
  | exact fun e => row_unlike e hql hq8 c33
  | exact fun e => row_nomade e hql Jb c39
  | exact fun e => Hy e q hql (at_in c46 Jb)
  | exact ⟨by omega, by omega, fun i hi => hrow i hi Jb⟩
end
end Go.Sy
namespace Go.Sy
open Go Go.Proofs Go.RowKit
theorem eTy_one : ∀ (x : Ty) (d : D), d ∈ eTy x → ∀ v, d = .val v → oneC v = true := by
  intro x d hd v hv
  subst hv
  simp only [List.mem_cons, D.val.injEq, List.not_mem_nil, or_false, reduceCtorEq] at hd
  rcases hd with rfl | rfl | rfl <;> rfl
abbrev cKey (k : Key) : Array Value := #[.int .i64 k.kind, .int .i64 k.n, S k.name, S k.words, S k.kids, S k.lengths]
attribute [local irreducible] AC AT AO AK AH ACalls Sub Res.cells Res.obj Res.nix Res.own Res.map Exit.then Exit.inBlock bodyPost Code.wp Code.wpIn WL Next Post Kont
section
variable {W0 : World} {L : List Res} {F : List Fact} {R : Value → List Res → List Fact → Prop}
theorem Y.eqlK {n : Nat} {ρ : Rho} {T : World → Prop} {a b : Key} {x y : Operand} {d : Option Tmp} {yt ty : TypeId} {pos : String} {af : Array Edge} {g : Option (Nat × Bool)} (hx : ev ρ x = some (vKey a)) (hy : ev ρ y = some (vKey b)) : Yd Tryz.prog n ρ T ⟨d, .binOp .eql 163 x y yt, ty, pos, af, g⟩ (.bool (keyB a b)) := ⟨fun s w st _ => by
  simp only [execOp, GQ st hx, GQ st hy, Sem.run_bind, run_eqGuard_agg w _ _ _ _ _ _ key_guard, run_eql_struct, key_equalIn, Result.andThen, Sem.run_pure]⟩
set_option maxRecDepth 100000
set_option maxHeartbeats 4000000
def TellsT (W0 : World) (L : List Res) (F : List Fact) (g : FuncId) (cs : List Value) (p : Ty → Prop) : Prop :=
  ∀ (t : Ty) (_ : TyOk t) (a1 : Option Addr) (k1 c1 : Nat) (a2 : Option Addr) (k2 c2 : Nat) (F' : List Fact) (_ : ∀ f ∈ F, f ∈ F') (_ : fW t a1 k1 c1 ∈ F') (_ : fK t a2 k2 c2 ∈ F') (R : Value → List Res → List Fact → Prop), (p t → R (.bool true) L F') → (¬ p t → R (.bool false) L F') → ACalls Tryz.prog W0 g ([vTy t a1 k1 c1 a2 k2 c2] ++ cs).toArray L F' R
theorem add1_c (g : Glob W0) (t : Ty) (ht : TyOk2 t) (K : Key) {ty : TypeId} {b : Nat} {a1 a2 : Option Addr} {k1 c1 k2 c2 : Nat} (m1 : fW t a1 k1 c1 ∈ F) (m2 : fK t a2 k2 c2 ∈ F) (hT : keyT t = K → R (.bool true) (Res.cells b (cKey K) ty :: L) F) (hF : keyT t ≠ K → R (.bool false) (Res.cells b (cKey K) ty :: L) F) :
    ACalls Tryz.prog W0 110 #[vTy t a1 k1 c1 a2 k2 c2, .pointer (some ⟨b, 0, none⟩)] (Res.cells b (cKey K) ty :: L) F R := by
  refine Gg Tryz.func110 HZ Tryz.ntmps110 HZ ?_
  refine qs 2 ?_
  refine Ga (GL HZ HZ (fun b2 => ?_))
  refine qs 4 ?_
  refine GP (fun _ => false) [(b2, _, _), (b, _, _)] bxA HZ (fun hx hX => ?_)
  refine qt [0, 2] ?_
  refine Gm (i := 1) Ja HZ HZ (fun _ => ?_)
  refine Ge HZ HZ (keyOf_c g t ht memA memA ?_)
  refine Gi bxA memB ?_
  refine Hf (i := 3) HZ (Y.eqlK (b := K) HZ HZ) Ja HZ HZ (fun c7 => ?_) (fun c7 => ?_)
  ·refine qt [4] ?_
   refine Gq Ja ?_
   refine qs 2 ?_
   first | exact Gb (L' := Res.cells b (cKey K) ty :: L) (F' := F) Tryz.results110 rfl (Sub.drop.trans subF) (hT ((keyB_iff _ _).1 c7)) | exact Gb (L' := Res.cells b (cKey K) ty :: L) (F' := F) Tryz.results110 rfl (Sub.drop.trans subF) (hF (fun e => by rw [(keyB_iff _ _).2 e] at c7; exact absurd c7 (by decide)))
  refine qt [4] ?_
  refine Gq Ja ?_
  refine qs 2 ?_
  first | exact Gb (L' := Res.cells b (cKey K) ty :: L) (F' := F) Tryz.results110 rfl (Sub.drop.trans subF) (hT ((keyB_iff _ _).1 c7)) | exact Gb (L' := Res.cells b (cKey K) ty :: L) (F' := F) Tryz.results110 rfl (Sub.drop.trans subF) (hF (fun e => by rw [(keyB_iff _ _).2 e] at c7; exact absurd c7 (by decide)))
theorem indexFuncT_c (l : List Ty) (hok0 : ∀ t ∈ l, TyOk t) {a : Option Addr} {k c : Nat} (m1 : fL l a k c ∈ F) (g : FuncId) [FnT Tryz.prog g] (cs : List Value) (p : Ty → Prop) (hg : TellsT W0 L F g cs p)
    (hT : ∀ (j : Nat) (hj : j < l.length), p l[j] → R (.int .i64 (j : Int)) L F) (hF : (∀ j (hj : j < l.length), ¬ p l[j]) → R (.int .i64 (-1)) L F) : ACalls Tryz.prog W0 107 #[.slice a k c, .func (.func g) #[] cs.toArray] L F R := by
  refine Gg Tryz.func107 HZ Tryz.ntmps107 HZ ?_
  refine qs 9 ?_
  refine Ga (Gt HZ HZ (fun hl7 => ?_) (hm := by repeat (first | exact mem0 | assumption | refine memS ?_)))
  refine qs 4 ?_
  refine AC.loopC (fun (q : Nat) => q ≤ l.length ∧ ∀ j (hj : j < l.length), j < q → ¬ p l[j]) (fun q => [(0, .slice a k c), (1, .func (.func g) #[] cs.toArray), (7, .int .i64 l.length), (8, .int .i64 (q : Int))]) (fun q => l.length - q) 0 ⟨by omega, by omega⟩ srA ?_
  rintro q ⟨hq, hok⟩
  refine qs 2 ?_
  refine Ga (Gw HZ HZ HZ (fun c9 => ?_) (fun c9 => ?_))
  ·refine qs 19 ?_
   have hql : q < l.length := by omega
   refine Ga (Gd HZ HZ HZ HZ memA hql (fun _ _ => ?_))
   refine Ga (GN HZ HZ ?_)
   intro a15 k15 z15 d15 e15 f15
   refine Ga (AO.callC HZ HZ HZ (hg l[q] (hok0 _ (List.getElem_mem hql)) _ _ _ _ _ _ _ (fun f hf => List.mem_cons_of_mem _ (List.mem_cons_of_mem _ (List.mem_cons_of_mem _ hf))) memA memA _ (fun c16 => ?_) (fun c16 => ?_)))
   ·refine qs 15 ?_
    first | exact Gb (L' := L) (F' := F) Tryz.results107 rfl subF (hT q hql c16) | exact Gb (L' := L) (F' := F) Tryz.results107 rfl subF (hF (fun j hj => hok j hj Jb))
   refine qs 10 ?_
   refine Gk (q + 1) ⟨by omega, fun j hj hjq => ?_⟩ Jb srA subF
   rcases Nat.lt_succ_iff_lt_or_eq.1 hjq with k9 | rfl
   · exact hok j hj k9
   exact c16
  refine qs 15 ?_
  first | exact Gb (L' := L) (F' := F) Tryz.results107 rfl subF (hT q hql c16) | exact Gb (L' := L) (F' := F) Tryz.results107 rfl subF (hF (fun j hj => hok j hj Jb))
theorem clipT_c (l : List Ty) (h0 : 0 < l.length) {a : Option Addr} {k c : Nat} (m1 : fL l a k c ∈ F) (h : ∀ ad, R (.slice (some ad) l.length l.length) L (fL l (some ad) l.length l.length :: F)) : ACalls Tryz.prog W0 111 #[.slice a k c] L F R := by
  refine Gg Tryz.func111 HZ Tryz.ntmps111 HZ ?_
  refine qs 9 ?_
  refine Ga (Gt HZ HZ (fun hl5 => ?_) (hm := by repeat (first | exact mem0 | assumption | refine memS ?_)))
  refine qs 1 ?_
  refine Ga (Gt HZ HZ (fun hl7 => ?_) (hm := by repeat (first | exact mem0 | assumption | refine memS ?_)))
  refine Ga (AO.sliceHM (j' := l.length) (m' := l.length) HZ HZ HZ HZ HZ HZ (enc := eTy) (lst := l) memA Jb Jb h0 (fun ad => ?_))
  rw [List.take_length]
  refine qs 4 ?_
  exact Gb Tryz.results111 rfl (Gf _ _) (h _)
theorem add_c (g : Glob W0) (l : List Ty) (hok : ∀ t ∈ l, TyOk t) (t : Ty) (ht : TyOk2 t) {a a1 a2 : Option Addr} {k c k1 c1 k2 c2 : Nat} (m : fL l a k c ∈ F) (m1 : fW t a1 k1 c1 ∈ F) (m2 : fK t a2 k2 c2 ∈ F)
    (h1 : ¬ rightP l → R (.tuple #[.slice none 0 0, .int .i64 0, .int .i64 1]) L F)
    (h2 : rightP l → ∀ q (hq : q < l.length), l[q] = t → R (.tuple #[.slice a k c, .int .i64 (q : Int), .int .i64 0]) L F)
    (h3 : rightP l → t ∉ l → ¬ madeP l t → R (.tuple #[.slice none 0 0, .int .i64 0, .int .i64 1]) L F)
    (h4 : rightP l → t ∉ l → madeP l t → l.length = 400 → R (.tuple #[.slice none 0 0, .int .i64 0, .int .i64 7]) L F)
    (h5 : rightP l → t ∉ l → madeP l t → l.length < 400 → ∀ a k c, R (.tuple #[.slice a k c, .int .i64 (l.length : Int), .int .i64 0]) L (fL (l ++ [t]) a k c :: F)) :
    ACalls Tryz.prog W0 52 #[.slice a k c, vTy t a1 k1 c1 a2 k2 c2] L F R := by
  refine Gg Tryz.func52 HZ Tryz.ntmps52 HZ ?_
  refine qs 2 ?_
  refine Ga (GL HZ HZ (fun b3 => ?_))
  refine qs 9 ?_
  refine Ga (Ge HZ HZ (right_c g l hok memA (fun c10 => ?_) (fun c10 => ?_)))
  ·refine qs 9 ?_
   refine Ga (Ge HZ HZ (keyOf_c g t ht memA memA ?_))
   refine Ga (Gj HZ (fun b7 => ?_))
   refine qs 6 ?_
   refine Ga (HO HZ HZ ?_)
   refine Ga (Ge HZ HZ (indexFuncT_c l hok m _ [.pointer (some ⟨b7, 0, none⟩)] (fun x => keyT x = keyT t) (fun x hx y1 y2 y3 y4 y5 y6 F' hF' n1 n2 R hT hF => add1_c g x hx.up (keyT t) n1 n2 hT hF) (fun j16 hj16 c16 => ?_) (fun c16 => ?_)))
   ·refine qs 8 ?_
    refine Ga (GY HZ HZ HZ (fun c19 => ?_) (fun c19 => absurd c19 Jb))
    refine qs 16 ?_
    first
    | exact Hc (L' := L) (F' := F) Tryz.results52 rfl rfl rfl subA (h1 c10)
    | exact Hc (L' := L) (F' := F) Tryz.results52 rfl rfl rfl subA (h2 c10 j16 hj16 (key_inj c16))
    | exact Hc (L' := L) (F' := F) Tryz.results52 rfl rfl rfl subA (h3 c10 hno c25)
    | exact Hc (L' := L) (F' := F) Tryz.results52 rfl rfl rfl subA (h4 c10 hno c25 Jb)
    | exact Hc (L' := L) (F' := fL (l ++ [t]) a35 k35 z35 :: F) Tryz.results52 rfl rfl rfl ((Gz (i := 0) rfl).trans (Sub.drop.trans (Sub.drop.trans (Sub.drop.trans (GX (fun x hx => by repeat (first | exact hx | refine List.mem_cons_of_mem _ ?_))))))) (h5 c10 hno c25 (by have := c10.2.1; omega) _ _ _)
   refine qs 8 ?_
   have hno : t ∉ l := fun hm => by
    obtain ⟨j, hj, e⟩ := List.getElem_of_mem hm
    exact c16 j hj (by rw [e])
   refine Ga (GY HZ HZ HZ (fun c19 => absurd c19 Jb) (fun c19 => ?_))
   refine qs 8 ?_
   refine Ga (Ge HZ HZ (made_c g l t ht memA memA memA (fun c25 => ?_) (fun c25 => ?_)))
   ·refine qs 8 ?_
    refine Ga (Gt HZ HZ (fun hl29 => ?_) (hm := by repeat (first | exact mem0 | assumption | refine memS ?_)))
    refine Ga (Gr HZ HZ HZ (fun c30 => ?_) (fun c30 => ?_))
    ·refine qs 14 ?_
     first
     | exact Hc (L' := L) (F' := F) Tryz.results52 rfl rfl rfl subA (h1 c10)
     | exact Hc (L' := L) (F' := F) Tryz.results52 rfl rfl rfl subA (h2 c10 j16 hj16 (key_inj c16))
     | exact Hc (L' := L) (F' := F) Tryz.results52 rfl rfl rfl subA (h3 c10 hno c25)
     | exact Hc (L' := L) (F' := F) Tryz.results52 rfl rfl rfl subA (h4 c10 hno c25 Jb)
     | exact Hc (L' := L) (F' := fL (l ++ [t]) a35 k35 z35 :: F) Tryz.results52 rfl rfl rfl ((Gz (i := 0) rfl).trans (Sub.drop.trans (Sub.drop.trans (Sub.drop.trans (GX (fun x hx => by repeat (first | exact hx | refine List.mem_cons_of_mem _ ?_))))))) (h5 c10 hno c25 (by have := c10.2.1; omega) _ _ _)
    refine qs 8 ?_
    refine GP (fun _ => false) [(b3, _, _)] bxA HZ (fun hx hX => ?_)
    have hk9 := (Gu (hX (fL l a k c) memA)).1
    subst hk9
    refine qt [0, 2, 5, 6] ?_
    refine HE (i := 1) (j := 3) Ja HZ HZ HZ HZ (fun _ => ?_) (fun _ => ?_)
    ·refine Ge HZ HZ (clipT_c l (by have := c10.1; omega) memA (fun ad32 => ?_))
     refine Gi bxA memB ?_
     refine Gm (i := 3) Ja HZ HZ (fun _ => ?_)
     refine Gl HZ HZ HZ HZ HZ (fun b34 => ?_)
     refine Gi bxA memB ?_
     refine Gm (i := 4) Ja HZ HZ (fun _ => ?_)
     refine AO.appendFull (enc := eTy) (lst := l) [t] HZ HZ HZ (show fL l _ _ _ ∈ _ from memA) eTy_one (.val (.val (.val (.slc (.slc .nil memA) memA)))) HZ (by decide) (fun _ => rfl) (by have := c10.2.1; simp only [maxLen]; omega) (by have := c10.2.1; omega) (fun a35 k35 z35 => ?_)
     refine Gi bxA memB ?_
     refine qt [7, 8, 9] ?_
     refine Gq Ja ?_
     refine qs 2 ?_
     first
     | exact Hc (L' := L) (F' := F) Tryz.results52 rfl rfl rfl subA (h1 c10)
     | exact Hc (L' := L) (F' := F) Tryz.results52 rfl rfl rfl subA (h2 c10 j16 hj16 (key_inj c16))
     | exact Hc (L' := L) (F' := F) Tryz.results52 rfl rfl rfl subA (h3 c10 hno c25)
     | exact Hc (L' := L) (F' := F) Tryz.results52 rfl rfl rfl subA (h4 c10 hno c25 Jb)
     | exact Hc (L' := L) (F' := fL (l ++ [t]) a35 k35 z35 :: F) Tryz.results52 rfl rfl rfl ((Gz (i := 0) rfl).trans (Sub.drop.trans (Sub.drop.trans (Sub.drop.trans (GX (fun x hx => by repeat (first | exact hx | refine List.mem_cons_of_mem _ ?_))))))) (h5 c10 hno c25 (by have := c10.2.1; omega) _ _ _)
    refine Gl HZ HZ HZ HZ HZ (fun b34 => ?_)
    refine Gi bxA memB ?_
    refine Gm (i := 1) Ja HZ HZ (fun _ => ?_)
    refine Ge HZ HZ (clipT_c l (by have := c10.1; omega) memA (fun ad32 => ?_))
    refine Gi bxA memB ?_
    refine Gm (i := 4) Ja HZ HZ (fun _ => ?_)
    refine AO.appendFull (enc := eTy) (lst := l) [t] HZ HZ HZ (show fL l _ _ _ ∈ _ from memA) eTy_one (.val (.val (.val (.slc (.slc .nil memA) memA)))) HZ (by decide) (fun _ => rfl) (by have := c10.2.1; simp only [maxLen]; omega) (by have := c10.2.1; omega) (fun a35 k35 z35 => ?_)
    refine Gi bxA memB ?_
    refine qt [7, 8, 9] ?_
    refine Gq Ja ?_
    refine qs 2 ?_
    first
    | exact Hc (L' := L) (F' := F) Tryz.results52 rfl rfl rfl subA (h1 c10)
    | exact Hc (L' := L) (F' := F) Tryz.results52 rfl rfl rfl subA (h2 c10 j16 hj16 (key_inj c16))
    | exact Hc (L' := L) (F' := F) Tryz.results52 rfl rfl rfl subA (h3 c10 hno c25)
    | exact Hc (L' := L) (F' := F) Tryz.results52 rfl rfl rfl subA (h4 c10 hno c25 Jb)
    | exact Hc (L' := L) (F' := fL (l ++ [t]) a35 k35 z35 :: F) Tryz.results52 rfl rfl rfl ((Gz (i := 0) rfl).trans (Sub.drop.trans (Sub.drop.trans (Sub.drop.trans (GX (fun x hx => by repeat (first | exact hx | refine List.mem_cons_of_mem _ ?_))))))) (h5 c10 hno c25 (by have := c10.2.1; omega) _ _ _)
   refine qs 15 ?_
   first
   | exact Hc (L' := L) (F' := F) Tryz.results52 rfl rfl rfl subA (h1 c10)
   | exact Hc (L' := L) (F' := F) Tryz.results52 rfl rfl rfl subA (h2 c10 j16 hj16 (key_inj c16))
   | exact Hc (L' := L) (F' := F) Tryz.results52 rfl rfl rfl subA (h3 c10 hno c25)
   | exact Hc (L' := L) (F' := F) Tryz.results52 rfl rfl rfl subA (h4 c10 hno c25 Jb)
   | exact Hc (L' := L) (F' := fL (l ++ [t]) a35 k35 z35 :: F) Tryz.results52 rfl rfl rfl ((Gz (i := 0) rfl).trans (Sub.drop.trans (Sub.drop.trans (Sub.drop.trans (GX (fun x hx => by repeat (first | exact hx | refine List.mem_cons_of_mem _ ?_))))))) (h5 c10 hno c25 (by have := c10.2.1; omega) _ _ _)
  refine qs 13 ?_
  first
  | exact Hc (L' := L) (F' := F) Tryz.results52 rfl rfl rfl subA (h1 c10)
  | exact Hc (L' := L) (F' := F) Tryz.results52 rfl rfl rfl subA (h2 c10 j16 hj16 (key_inj c16))
  | exact Hc (L' := L) (F' := F) Tryz.results52 rfl rfl rfl subA (h3 c10 hno c25)
  | exact Hc (L' := L) (F' := F) Tryz.results52 rfl rfl rfl subA (h4 c10 hno c25 Jb)
  | exact Hc (L' := L) (F' := fL (l ++ [t]) a35 k35 z35 :: F) Tryz.results52 rfl rfl rfl ((Gz (i := 0) rfl).trans (Sub.drop.trans (Sub.drop.trans (Sub.drop.trans (GX (fun x hx => by repeat (first | exact hx | refine List.mem_cons_of_mem _ ?_))))))) (h5 c10 hno c25 (by have := c10.2.1; omega) _ _ _)
end
end Go.Sy
namespace Go.Sy
open Go Go.Proofs Go.RowKit
abbrev vI (i : Int) : Value := .int .i64 i
attribute [local irreducible] AC AT AO AK AH ACalls Sub Res.cells Res.obj Res.nix Res.own Res.map Exit.then Exit.inBlock bodyPost Code.wp Code.wpIn WL Next Post Kont
section
variable {W0 : World} {L : List Res} {F : List Fact} {R : Value → List Res → List Fact → Prop}
set_option maxRecDepth 100000
set_option maxHeartbeats 4000000
end
end Go.Sy
namespace Go.Sy
open Go Go.Proofs Go.RowKit
structure TyIn (t : Ty) : Prop where
  kind : -9223372036854775808 ≤ t.kind ∧ t.kind ≤ 9223372036854775807
  n : -9223372036854775808 ≤ t.n ∧ t.n ≤ 9223372036854775807
  kid : ∀ k ∈ t.kids, -9223372036854775808 ≤ k ∧ k ≤ 9223372036854775807
theorem right_snoc {l : List Ty} {t : Ty} (h : rightP l) (hn : t ∉ l) (hm : madeP l t) (hl : l.length < 400) : rightP (l ++ [t]) := by
  refine ⟨by have := h.1; simp; omega, by simp; omega, fun i hi => ?_⟩
  have h22 := h.1
  rcases Nat.lt_or_ge i l.length with k | k
  · have hr := h.2.2 i k
    unfold rowAt at hr ⊢
    rw [List.getElem_append_left k, List.take_append_of_le_length Jb]
    exact hr
  have hil : i = l.length := by simp at hi; omega
  subst hil
  unfold rowAt
  rw [if_neg Jb, List.getElem_append_right Jb, List.take_append_of_le_length Jb, List.take_length]
  simp only [Nat.sub_self, List.getElem_cons_zero]
  exact ⟨hm, hn⟩
theorem start_right : rightP startL := by
  have hl := start_len
  refine ⟨by omega, by omega, fun i hi => ?_⟩
  unfold rowAt
  rw [if_pos Jb, start_get hi]
def AddP (l : List Ty) (t : Ty) (l' : List Ty) (i e : Int) : Prop :=
  (∃ q : Nat, ∃ hq : q < l.length, l[q] = t ∧ l' = l ∧ i = (q : Int) ∧ e = 0) ∨
  (t ∉ l ∧ ((¬ madeP l t ∧ l' = [] ∧ i = 0 ∧ e = 1) ∨ (madeP l t ∧ l.length = 400 ∧ l' = [] ∧ i = 0 ∧ e = 7) ∨ (madeP l t ∧ l.length ≠ 400 ∧ l' = l ++ [t] ∧ i = (l.length : Int) ∧ e = 0)))
theorem right_inj {l : List Ty} (h : rightP l) {i j : Nat} (hi : i < l.length) (hj : j < l.length) (e : l[i] = l[j]) : i = j := by
  rcases Nat.lt_trichotomy i j with k | k | k
  · refine absurd ?_ (Hy h j hj)
    rw [← e, List.mem_take_iff_getElem]
    exact ⟨i, by omega, rfl⟩
  · exact k
  refine absurd ?_ (Hy h i hi)
  rw [e, List.mem_take_iff_getElem]
  exact ⟨j, by omega, rfl⟩
theorem addP_one {l : List Ty} {t : Ty} {l1 l2 : List Ty} {i1 e1 i2 e2 : Int} (hr : rightP l) (h1 : AddP l t l1 i1 e1) (h2 : AddP l t l2 i2 e2) : l1 = l2 ∧ i1 = i2 ∧ e1 = e2 := by
  rcases h1 with ⟨q, hq, a1, a2, a3, a4⟩ | ⟨n1, h1⟩
  · rcases h2 with ⟨r, hr', b1, b2, b3, b4⟩ | ⟨n2, _⟩
    · have := right_inj hr hq hr' (a1.trans b1.symm)
      subst this
      exact ⟨by rw [a2, b2], by rw [a3, b3], by rw [a4, b4]⟩
    exact absurd (at_mem hq a1) n2
  rcases h2 with ⟨r, hr', b1, _⟩ | ⟨n2, h2⟩
  · exact absurd (at_mem hr' b1) n1
  rcases h1 with ⟨m1, a2, a3, a4⟩ | ⟨m1, z1, a2, a3, a4⟩ | ⟨m1, z1, a2, a3, a4⟩ <;> rcases h2 with ⟨m2, b2, b3, b4⟩ | ⟨m2, z2, b2, b3, b4⟩ | ⟨m2, z2, b2, b3, b4⟩
  all_goals first | exact absurd m2 m1 | exact absurd m1 m2 | exact absurd z2 z1 | exact absurd z1 z2 | exact ⟨by rw [a2, b2], by rw [a3, b3], by rw [a4, b4]⟩
theorem at_some {l : List Ty} {t : Ty} {i : Int} (h : atP l t i) (hm : t ∈ l) : ∃ q : Nat, ∃ hq : q < l.length, i = (q : Int) ∧ l[q] = t := by
  rcases h with ⟨_, h⟩ | ⟨q, hq, e1, e2, _⟩
  · exact absurd hm h
  exact ⟨q, hq, e1, e2⟩
attribute [local irreducible] AC AT AO AK AH ACalls Sub Res.cells Res.obj Res.nix Res.own Res.map Exit.then Exit.inBlock bodyPost Code.wp Code.wpIn WL Next Post Kont
section
variable {W0 : World} {L : List Res} {F : List Fact} {R : Value → List Res → List Fact → Prop}
set_option maxRecDepth 100000
set_option maxHeartbeats 4000000
theorem add2_c (g : Glob W0) (l : List Ty) (hok : ∀ t ∈ l, TyOk t) (t : Ty) (ht : TyOk2 t) {a a1 a2 : Option Addr} {k c k1 c1 k2 c2 : Nat} (m : fL l a k c ∈ F) (m1 : fW t a1 k1 c1 ∈ F) (m2 : fK t a2 k2 c2 ∈ F)
    (h1 : ¬ rightP l → R (.tuple #[.slice none 0 0, .int .i64 0, .int .i64 1]) L (fL [] none 0 0 :: F))
    (h2 : rightP l → ∀ l' i e a k c, AddP l t l' i e → R (.tuple #[.slice a k c, .int .i64 i, .int .i64 e]) L (fL l' a k c :: F)) :
    ACalls Tryz.prog W0 52 #[.slice a k c, vTy t a1 k1 c1 a2 k2 c2] L F R := by
  refine Hm (Hr (sz := 5)) ?_
  refine ACalls.post (R1 := fun v L1 F1 => L1 = L ∧ ((¬ rightP l ∧ v = .tuple #[.slice none 0 0, .int .i64 0, .int .i64 1] ∧ F1 = fL [] none 0 0 :: F) ∨ (rightP l ∧ ∃ l' i e a k c, AddP l t l' i e ∧ v = .tuple #[.slice a k c, .int .i64 i, .int .i64 e] ∧ (∀ f ∈ F, f ∈ F1) ∧ fL l' a k c ∈ F1)))
    (add_c g l hok t ht (List.mem_cons_of_mem _ m) (List.mem_cons_of_mem _ m1) (List.mem_cons_of_mem _ m2)
      (fun n => ⟨rfl, Or.inl ⟨n, rfl, rfl⟩⟩)
      (fun n q hq e => ⟨rfl, Or.inr ⟨n, l, q, 0, a, k, c, Or.inl ⟨q, hq, e, rfl, rfl, rfl⟩, rfl, fun f hf => List.mem_cons_of_mem _ hf, List.mem_cons_of_mem _ m⟩⟩)
      (fun n no nm => ⟨rfl, Or.inr ⟨n, [], 0, 1, none, 0, 0, Or.inr ⟨no, Or.inl ⟨nm, rfl, rfl, rfl⟩⟩, rfl, fun f hf => List.mem_cons_of_mem _ hf, List.mem_cons_self⟩⟩)
      (fun n no nm hl => ⟨rfl, Or.inr ⟨n, [], 0, 7, none, 0, 0, Or.inr ⟨no, Or.inr (Or.inl ⟨nm, hl, rfl, rfl, rfl⟩)⟩, rfl, fun f hf => List.mem_cons_of_mem _ hf, List.mem_cons_self⟩⟩)
      (fun n no nm hl a' k' c' => ⟨rfl, Or.inr ⟨n, l ++ [t], l.length, 0, a', k', c', Or.inr ⟨no, Or.inr (Or.inr ⟨nm, by omega, rfl, rfl, rfl⟩)⟩, rfl, fun f hf => List.mem_cons_of_mem _ (List.mem_cons_of_mem _ hf), List.mem_cons_self⟩⟩)) ?_
  rintro v L1 F1 ⟨rfl, ⟨n, rfl, rfl⟩ | ⟨n, l', i, e, a', k', c', hp, rfl, hf, hm⟩⟩
  · exact ⟨_, _, Gf _ _, h1 n⟩
  exact ⟨_, _, Gh (mem1 hm hf), h2 n l' i e a' k' c' hp⟩
theorem radd_c (l : List Ty) (hlen : l.length ≤ 402) (t : Ty) (ht : TyOk t) {a a1 a2 : Option Addr} {k c k1 c1 k2 c2 : Nat} (m : fL l a k c ∈ F) (m1 : fW t a1 k1 c1 ∈ F) (m2 : fK t a2 k2 c2 ∈ F)
    (h : ∀ l' i e a k c, AddP l t l' i e → R (.agg #[.slice a k c, .int .i64 i, .int .i64 e]) L (fL l' a k c :: F)) :
    ACalls Tryz.prog W0 220 #[.slice a k c, vTy t a1 k1 c1 a2 k2 c2] L F R := by
  refine Hm (Hr (sz := 5)) ?_
  refine Gg Tryz.func220 HZ Tryz.ntmps220 HZ ?_
  refine qs 2 ?_
  refine Ga (GL HZ HZ (fun b3 => (Ga (Gj HZ (fun b4 => ?_)))))
  refine qs 7 ?_
  refine Ga (Ge HZ HZ (rat_c l t memA memA memA (fun i8 c8 => ?_)))
  refine Ga (GY HZ HZ HZ (fun c9 => ?_) (fun c9 => ?_))
  ·refine qs 8 ?_
   refine Ga (Ge HZ HZ (rat_c l t memA memA memA (fun i13 c13 => ?_)))
   obtain ⟨q13, hq13, rfl, e13⟩ := at_some c13 (at_in c8 Jb)
   refine Ga (GO HZ HZ HZ ?_)
   refine qs 5 ?_
   first
   | exact Gn (rs := [.cell 4 _]) (L' := L) (F' := fL l a k c :: F) Tryz.results220 (.agg (j := 0) rfl rfl rfl .nil) (Sub.drop.trans (Sub.drop.trans (Gh (mem1 memA (fun x hx => by repeat (first | exact hx | refine List.mem_cons_of_mem _ ?_)))))) (h l q13 0 a k c (Or.inl ⟨q13, hq13, e13, rfl, rfl, rfl⟩))
   | exact Gn (rs := [.cell 4 _]) (L' := L) (F' := fL [] none 0 0 :: F) Tryz.results220 (.agg (j := 0) rfl rfl rfl .nil) subA (h [] 0 1 none 0 0 (Or.inr ⟨hno, Or.inl ⟨c17, rfl, rfl, rfl⟩⟩))
   | exact Gn (rs := [.cell 4 _]) (L' := L) (F' := fL [] none 0 0 :: F) Tryz.results220 (.agg (j := 0) rfl rfl rfl .nil) subA (h [] 0 7 none 0 0 (Or.inr ⟨hno, Or.inr (Or.inl ⟨c17, by omega, rfl, rfl, rfl⟩)⟩))
   | exact Gn (rs := [.cell 4 _]) (L' := L) (F' := fL (l ++ [t]) a31 k31 c31 :: F) Tryz.results220 (.agg (j := 1) rfl rfl rfl .nil) ((Gz (i := 0) rfl).trans (Sub.drop.trans (Sub.drop.trans (Sub.drop.trans (GX (fun x hx => by repeat (first | exact hx | refine List.mem_cons_of_mem _ ?_))))))) (h (l ++ [t]) l.length 0 a31 k31 c31 (Or.inr ⟨hno, Or.inr (Or.inr ⟨c17, by omega, rfl, rfl, rfl⟩)⟩))
  refine qs 10 ?_
  have hno := at_out c8 Jb
  refine Ga (Ge HZ HZ (rmade_c l t ht memA memA memA (fun c17 => ?_) (fun c17 => ?_)))
  ·refine qs 10 ?_
   refine Ga (Gt HZ HZ (fun hl21 => ?_) (hm := by repeat (first | exact mem0 | assumption | refine memS ?_)))
   refine Ga (Gr HZ HZ HZ (fun c22 => ?_) (fun c22 => ?_))
   ·refine qs 5 ?_
    refine Ga (GO HZ HZ HZ ?_)
    refine qs 5 ?_
    first
    | exact Gn (rs := [.cell 4 _]) (L' := L) (F' := fL l a k c :: F) Tryz.results220 (.agg (j := 0) rfl rfl rfl .nil) (Sub.drop.trans (Sub.drop.trans (Gh (mem1 memA (fun x hx => by repeat (first | exact hx | refine List.mem_cons_of_mem _ ?_)))))) (h l q13 0 a k c (Or.inl ⟨q13, hq13, e13, rfl, rfl, rfl⟩))
    | exact Gn (rs := [.cell 4 _]) (L' := L) (F' := fL [] none 0 0 :: F) Tryz.results220 (.agg (j := 0) rfl rfl rfl .nil) subA (h [] 0 1 none 0 0 (Or.inr ⟨hno, Or.inl ⟨c17, rfl, rfl, rfl⟩⟩))
    | exact Gn (rs := [.cell 4 _]) (L' := L) (F' := fL [] none 0 0 :: F) Tryz.results220 (.agg (j := 0) rfl rfl rfl .nil) subA (h [] 0 7 none 0 0 (Or.inr ⟨hno, Or.inr (Or.inl ⟨c17, by omega, rfl, rfl, rfl⟩)⟩))
    | exact Gn (rs := [.cell 4 _]) (L' := L) (F' := fL (l ++ [t]) a31 k31 c31 :: F) Tryz.results220 (.agg (j := 1) rfl rfl rfl .nil) ((Gz (i := 0) rfl).trans (Sub.drop.trans (Sub.drop.trans (Sub.drop.trans (GX (fun x hx => by repeat (first | exact hx | refine List.mem_cons_of_mem _ ?_))))))) (h (l ++ [t]) l.length 0 a31 k31 c31 (Or.inr ⟨hno, Or.inr (Or.inr ⟨c17, by omega, rfl, rfl, rfl⟩)⟩))
   refine qs 7 ?_
   refine Ga (He HZ (fun b24 => ?_))
   refine GH (Hz (i := 0) (k := 0) (sz := 5) (enc := eTy) [] HZ .nil (fun _ => rfl) HZ (by decide)) ?_
   refine qs 7 ?_
   refine Ga (GU (i := 0) (enc := eTy) (lst := []) (lst2 := l) HZ HZ HZ HZ memA eTy_one (fun _ => rfl) (by simp only [maxLen, List.length_nil]; omega) (by simp only [List.length_nil]; omega) (fun a27 k27 c27 => ?_))
   refine qs 7 ?_
   refine Ga (Gl HZ HZ HZ HZ HZ (fun b30 => ?_))
   refine Ga (GJ (i := 0) (enc := eTy) (lst := l) [t] HZ HZ HZ HZ (.val (.val (.val (.slc (.slc .nil memA) memA)))) HZ HZ (fun _ => rfl) (by simp only [maxLen]; omega) Jb (fun a31 k31 c31 => ?_))
   refine qs 7 ?_
   refine Ga (Gt HZ HZ (fun hl34 => ?_) (hm := by repeat (first | exact mem0 | assumption | refine memS ?_)))
   refine Ga (GO HZ HZ HZ ?_)
   refine qs 4 ?_
   first
   | exact Gn (rs := [.cell 4 _]) (L' := L) (F' := fL l a k c :: F) Tryz.results220 (.agg (j := 0) rfl rfl rfl .nil) (Sub.drop.trans (Sub.drop.trans (Gh (mem1 memA (fun x hx => by repeat (first | exact hx | refine List.mem_cons_of_mem _ ?_)))))) (h l q13 0 a k c (Or.inl ⟨q13, hq13, e13, rfl, rfl, rfl⟩))
   | exact Gn (rs := [.cell 4 _]) (L' := L) (F' := fL [] none 0 0 :: F) Tryz.results220 (.agg (j := 0) rfl rfl rfl .nil) subA (h [] 0 1 none 0 0 (Or.inr ⟨hno, Or.inl ⟨c17, rfl, rfl, rfl⟩⟩))
   | exact Gn (rs := [.cell 4 _]) (L' := L) (F' := fL [] none 0 0 :: F) Tryz.results220 (.agg (j := 0) rfl rfl rfl .nil) subA (h [] 0 7 none 0 0 (Or.inr ⟨hno, Or.inr (Or.inl ⟨c17, by omega, rfl, rfl, rfl⟩)⟩))
   | exact Gn (rs := [.cell 4 _]) (L' := L) (F' := fL (l ++ [t]) a31 k31 c31 :: F) Tryz.results220 (.agg (j := 1) rfl rfl rfl .nil) ((Gz (i := 0) rfl).trans (Sub.drop.trans (Sub.drop.trans (Sub.drop.trans (GX (fun x hx => by repeat (first | exact hx | refine List.mem_cons_of_mem _ ?_))))))) (h (l ++ [t]) l.length 0 a31 k31 c31 (Or.inr ⟨hno, Or.inr (Or.inr ⟨c17, by omega, rfl, rfl, rfl⟩)⟩))
  refine qs 6 ?_
  refine Ga (GO HZ HZ HZ ?_)
  refine qs 5 ?_
  first
  | exact Gn (rs := [.cell 4 _]) (L' := L) (F' := fL l a k c :: F) Tryz.results220 (.agg (j := 0) rfl rfl rfl .nil) (Sub.drop.trans (Sub.drop.trans (Gh (mem1 memA (fun x hx => by repeat (first | exact hx | refine List.mem_cons_of_mem _ ?_)))))) (h l q13 0 a k c (Or.inl ⟨q13, hq13, e13, rfl, rfl, rfl⟩))
  | exact Gn (rs := [.cell 4 _]) (L' := L) (F' := fL [] none 0 0 :: F) Tryz.results220 (.agg (j := 0) rfl rfl rfl .nil) subA (h [] 0 1 none 0 0 (Or.inr ⟨hno, Or.inl ⟨c17, rfl, rfl, rfl⟩⟩))
  | exact Gn (rs := [.cell 4 _]) (L' := L) (F' := fL [] none 0 0 :: F) Tryz.results220 (.agg (j := 0) rfl rfl rfl .nil) subA (h [] 0 7 none 0 0 (Or.inr ⟨hno, Or.inr (Or.inl ⟨c17, by omega, rfl, rfl, rfl⟩)⟩))
  | exact Gn (rs := [.cell 4 _]) (L' := L) (F' := fL (l ++ [t]) a31 k31 c31 :: F) Tryz.results220 (.agg (j := 1) rfl rfl rfl .nil) ((Gz (i := 0) rfl).trans (Sub.drop.trans (Sub.drop.trans (Sub.drop.trans (GX (fun x hx => by repeat (first | exact hx | refine List.mem_cons_of_mem _ ?_))))))) (h (l ++ [t]) l.length 0 a31 k31 c31 (Or.inr ⟨hno, Or.inr (Or.inr ⟨c17, by omega, rfl, rfl, rfl⟩)⟩))
end
end Go.Sy
namespace Go.Sy
open Go Go.Proofs
theorem start_plain : ∀ t ∈ startL, t.kids = [] ∧ t.words = [] ∧ t.kind ≠ 9 ∧ (t.kind = 7 → t.name = []) := by decide
structure RtOk (q : Nat) (t : Ty) : Prop where
  kids : ∀ k ∈ t.kids, 0 ≤ k ∧ k < q
  few : t.kids.length ≤ 16
  param : t.kind = 9 → 0 ≤ t.n ∧ t.n < 16 ∧ t.kids = []
  bare : t.kind = 7 → t.name = []
  iface : t.kind = 7 → t.words.length = t.kids.length
theorem rt_of_right {l : List Ty} (h : rightP l) {q : Nat} (hq : q < l.length) : RtOk q l[q] := by
  have hr := h.2.2 q hq
  unfold rowAt at hr
  by_cases c : q < 22
  · rw [if_pos c] at hr
    have hql : q < startL.length := by rw [start_len]; exact c
    rw [start_get hql] at hr
    obtain ⟨h1, h2, h3, h4⟩ := start_plain _ (List.getElem_mem hql)
    rw [hr]
    generalize startL[q] = t at h1 h2 h3 h4
    exact ⟨by rw [h1]; simp, by rw [h1]; simp, fun e => absurd e h3, h4, fun _ => by rw [h1, h2]; rfl⟩
  rw [if_neg c] at hr
  obtain ⟨⟨hkids, hlen, hname, _, hK⟩, _⟩ := hr
  have htl : (l.take q).length = q := by rw [List.length_take]; omega
  rw [kidsP, htl] at hkids
  generalize l[q] = t at hkids hlen hname hK
  refine ⟨hkids, hlen, fun e => ?_, fun e => hname Jb, fun e => ((madeK_7 e).1 hK).1⟩
  have := (madeK_9 e).1 hK
  exact ⟨this.1, this.2.1, List.eq_nil_of_length_eq_zero this.2.2⟩
def askK (A : List Int) (m : Int) (ks : List Int) : Int := ks.foldl (fun m k => max m (A.getD k.toNat 0)) m
def ask0 (t : Ty) : Int := if t.kind = 9 then t.n + 1 else 0
def ask1 (A : List Int) (t : Ty) : Int := askK A (ask0 t) t.kids
def asksL (l : List Ty) : List Int := l.foldl (fun A t => A ++ [ask1 A t]) []
theorem asks_step {l : List Ty} {q : Nat} (hq : q < l.length) : asksL (l.take (q + 1)) = asksL (l.take q) ++ [ask1 (asksL (l.take q)) l[q]] := by
  rw [List.take_succ_eq_append_getElem hq, asksL, List.foldl_append]; rfl
theorem asks_len (l : List Ty) : ∀ q, q ≤ l.length → (asksL (l.take q)).length = q
  | 0, _ => by simp [asksL]
  | q + 1, h => by rw [asks_step Jb, List.length_append, asks_len l q Jb]; rfl
theorem askK_snoc (A : List Int) (m : Int) (ks : List Int) {v : Nat} (hv : v < ks.length) : askK A m (ks.take (v + 1)) = max (askK A m (ks.take v)) (A.getD ks[v].toNat 0) := by
  rw [List.take_succ_eq_append_getElem hv, askK, List.foldl_append]; rfl
theorem askK_ge (A : List Int) : ∀ (ks : List Int) (m : Int), m ≤ askK A m ks ∧ ∀ k ∈ ks, A.getD k.toNat 0 ≤ askK A m ks
  | [], m => ⟨Int.le_refl _, by simp⟩
  | k :: ks, m => by
    obtain ⟨h1, h2⟩ := askK_ge A ks (max m (A.getD k.toNat 0))
    have e : askK A m (k :: ks) = askK A (max m (A.getD k.toNat 0)) ks := rfl
    rw [e]
    refine ⟨by omega, fun x hx => ?_⟩
    rcases List.mem_cons.1 hx with rfl | hx
    · omega
    exact h2 x hx
theorem getD_app {α : Type} (a b : List α) {k : Nat} (z : α) (hk : k < a.length) : (a ++ b).getD k z = a.getD k z := by
  rw [List.getD_eq_getElem?_getD, List.getElem?_append_left hk, List.getD_eq_getElem?_getD]
theorem asks_pre (l : List Ty) : ∀ (d q k : Nat), q + d ≤ l.length → k < q → (asksL (l.take (q + d))).getD k 0 = (asksL (l.take q)).getD k 0
  | 0, _, _, _, _ => rfl
  | d + 1, q, k, h, hk => by
    have e : q + (d + 1) = q + d + 1 := by omega
    rw [e, asks_step Jb, getD_app _ _ _ (by rw [asks_len l _ Jb]; omega)]
    exact asks_pre l d q k Jb hk
theorem asks_at {l : List Ty} {i n : Nat} (hi : i < l.length) (hn : n ≤ i) : (asksL (l.take (i + 1))).getD n 0 = ask1 (asksL (l.take n)) (l[n]'Jb) := by
  have e : i + 1 = n + 1 + (i - n) := by omega
  rw [e, asks_pre l (i - n) (n + 1) n Jb Jb, asks_step Jb, List.getD_eq_getElem?_getD, List.getElem?_append_right (by rw [asks_len l n Jb]; omega), asks_len l n Jb]
  simp
theorem asks_kid {l : List Ty} (hr : rightP l) {i n : Nat} (hi : i < l.length) (hn : n ≤ i) {k : Int} (hk : k ∈ (l[n]'Jb).kids) : (asksL (l.take (i + 1))).getD k.toNat 0 ≤ (asksL (l.take (i + 1))).getD n 0 := by
  have hb := (rt_of_right hr (show n < l.length by omega)).kids k hk
  have e : i + 1 = n + (i + 1 - n) := by omega
  rw [asks_at hi hn]
  rw [e, asks_pre l (i + 1 - n) n k.toNat Jb Jb]
  exact (askK_ge _ _ _).2 k hk
theorem asks_nonneg {l : List Ty} (hr : rightP l) {i n : Nat} (hi : i < l.length) (hn : n ≤ i) : 0 ≤ (asksL (l.take (i + 1))).getD n 0 := by
  rw [asks_at hi hn]
  have h1 := (askK_ge (asksL (l.take n)) (l[n]'Jb).kids (ask0 (l[n]'Jb))).1
  have h0 : 0 ≤ ask0 (l[n]'Jb) := by
    unfold ask0
    split
    · have := ((rt_of_right hr (show n < l.length by omega)).param ‹_›).1; omega
    omega
  exact Int.le_trans h0 h1
def markK (M : List Bool) (ks : List Int) : List Bool := ks.foldl (fun M k => M.set k.toNat true) M
def partStep (l : List Ty) (M : List Bool) (n : Nat) : List Bool := if M.getD n false = true then markK M (rowK l n) else M
where rowK (l : List Ty) (n : Nat) : List Int := (l.getD n (basicT [])).kids
def partsN (l : List Ty) (i : Nat) : Nat → List Bool
  | 0 => (List.replicate (i + 1) false).set i true
  | j + 1 => partStep l (partsN l i j) (i - j)
def partsL (l : List Ty) (i : Nat) : List Bool := partsN l i (i + 1)
theorem markK_len : ∀ (ks : List Int) (M : List Bool), (markK M ks).length = M.length
  | [], _ => rfl
  | k :: ks, M => by show (markK (M.set k.toNat true) ks).length = _; rw [markK_len ks]; simp
theorem markK_snoc (M : List Bool) (ks : List Int) {v : Nat} (hv : v < ks.length) : markK M (ks.take (v + 1)) = (markK M (ks.take v)).set ks[v].toNat true := by
  rw [List.take_succ_eq_append_getElem hv, markK, List.foldl_append]; rfl
theorem set_getD (M : List Bool) (a n : Nat) : (M.set a true).getD n false = (if a = n ∧ a < M.length then true else M.getD n false) := by
  simp only [List.getD_eq_getElem?_getD, List.getElem?_set]
  by_cases h1 : a = n
  · subst h1
    by_cases h2 : a < M.length
    · simp [h2]
    simp [h2]
  simp [h1]
theorem markK_get : ∀ (ks : List Int) (M : List Bool) (n : Nat), (∀ k ∈ ks, k.toNat < M.length) → ((markK M ks).getD n false = true ↔ M.getD n false = true ∨ ∃ k ∈ ks, k.toNat = n)
  | [], M, n, _ => by simp [markK]
  | k :: ks, M, n, h => by
    show (markK (M.set k.toNat true) ks).getD n false = true ↔ _
    have hk := h k (.head _)
    rw [markK_get ks _ n (fun x hx => by rw [List.length_set]; exact h x (.tail _ hx)), set_getD]
    by_cases e : k.toNat = n
    · simp [e, e ▸ hk]
    simp [e]
theorem partsN_len (l : List Ty) (i : Nat) : ∀ j, (partsN l i j).length = i + 1
  | 0 => by simp [partsN]
  | j + 1 => by
    rw [partsN, partStep]
    split
    · rw [markK_len, partsN_len l i j]
    exact partsN_len l i j
section
variable {l : List Ty} (hr : rightP l) {i : Nat} (hi : i < l.length)
include hr hi
omit hr in
theorem row_kid {n : Nat} (hn : n ≤ i) : partStep.rowK l n = (l[n]'Jb).kids := by
  unfold partStep.rowK; simp [List.getD, List.getElem?_eq_getElem (show n < l.length by omega)]
theorem kid_low {n : Nat} (hn : n ≤ i) {k : Int} (hk : k ∈ partStep.rowK l n) : 0 ≤ k ∧ k < n := by
  rw [row_kid hi hn] at hk
  exact (rt_of_right hr (show n < l.length by omega)).kids k hk
theorem mkpart_get (j : Nat) (hj : j ≤ i) (n : Nat) : (partsN l i (j + 1)).getD n false = true ↔ (partsN l i j).getD n false = true ∨ ((partsN l i j).getD (i - j) false = true ∧ ∃ k ∈ partStep.rowK l (i - j), k.toNat = n) := by
  rw [partsN, partStep]
  split
  · rename_i c
    rw [markK_get _ _ _ (fun k hk => by have := kid_low hr hi (Nat.sub_le i j) hk; rw [partsN_len]; omega)]
    exact ⟨fun h => h.imp id (fun h => ⟨c, h⟩), fun h => h.imp id (fun h => h.2)⟩
  rename_i c
  constructor
  · exact fun h => .inl h
  rintro (h | ⟨h, _⟩)
  · exact h
  exact absurd h c
theorem mkpart_stay (n : Nat) : ∀ d j, j + d ≤ i + 1 → i ≤ n + j → ((partsN l i (j + d)).getD n false = true ↔ (partsN l i j).getD n false = true)
  | 0, _, _, _ => Iff.rfl
  | d + 1, j, h, hn => by
    have e : j + (d + 1) = j + d + 1 := by omega
    rw [e, mkpart_get hr hi (j + d) Jb]
    have ih := mkpart_stay n d j Jb hn
    constructor
    · rintro (h1 | ⟨_, k, hk, e2⟩)
      · exact ih.1 h1
      have := kid_low hr hi (Nat.sub_le i (j + d)) hk; omega
    exact fun h1 => .inl (ih.2 h1)
theorem mkpart_mono (n : Nat) : ∀ d j, j + d ≤ i + 1 → (partsN l i j).getD n false = true → (partsN l i (j + d)).getD n false = true
  | 0, _, _, h => h
  | d + 1, j, hd, h => by
    have e : j + (d + 1) = j + d + 1 := by omega
    rw [e, mkpart_get hr hi (j + d) Jb]
    exact .inl (mkpart_mono n d j Jb h)
theorem parts_kid {n : Nat} (hn : n ≤ i) (hm : (partsL l i).getD n false = true) {k : Int} (hk : k ∈ (l[n]'Jb).kids) : (partsL l i).getD k.toNat false = true := by
  unfold partsL at hm ⊢
  have e : i + 1 = (i - n) + (n + 1) := by omega
  rw [e] at hm ⊢
  have h1 := (mkpart_stay hr hi n (n + 1) (i - n) Jb Jb).1 hm
  have e2 : (i - n) + (n + 1) = (i - n + 1) + n := by omega
  rw [e2]
  refine mkpart_mono hr hi _ n (i - n + 1) Jb ?_
  rw [mkpart_get hr hi (i - n) Jb]
  have e3 : i - (i - n) = n := by omega
  rw [e3]
  exact .inr ⟨h1, k, by rw [row_kid hi hn]; exact hk, rfl⟩
theorem parts_self : (partsL l i).getD i false = true := by
  unfold partsL
  have := mkpart_mono hr hi i (i + 1) 0 Jb (by rw [partsN, set_getD]; simp)
  simpa using this
theorem parts_ask {n : Nat} : ∀ j, j ≤ i + 1 → (partsN l i j).getD n false = true → n ≤ i ∧ (asksL (l.take (i + 1))).getD n 0 ≤ (asksL (l.take (i + 1))).getD i 0 := by
  intro j
  induction j generalizing n with
  | zero =>
    intro _ h
    rw [partsN, set_getD] at h
    split at h
    · rename_i c; obtain ⟨rfl, _⟩ := c; exact ⟨Nat.le_refl _, Int.le_refl _⟩
    rcases Nat.lt_or_ge n (i + 1) with c | c
    · rw [List.getD_eq_getElem?_getD, List.getElem?_replicate] at h; simp [c] at h
    rw [List.getD_eq_getElem?_getD, List.getElem?_eq_none (by simpa using c)] at h; simp at h
  | succ j ih =>
    intro hj h
    rw [mkpart_get hr hi j Jb] at h
    rcases h with h | ⟨h1, k, hk, e⟩
    · exact ih Jb h
    have h2 := ih Jb h1
    have hb := kid_low hr hi (Nat.sub_le i j) hk
    rw [row_kid hi (Nat.sub_le i j)] at hk
    have h3 := asks_kid hr hi (Nat.sub_le i j) hk
    rw [e] at h3
    exact ⟨by omega, Int.le_trans h3 h2.2⟩
end
end Go.Sy
namespace Go.Sy
open Go Go.Proofs
instance (w : List UInt8) : Decidable (markP w) := by unfold markP; infer_instance
abbrev Tm := List UInt8 × Int
def zips (t : Ty) : List Tm := t.words.zip t.kids
theorem snocInd {α : Type} {P : List α → Prop} (h0 : P []) (hs : ∀ l x, P l → P (l ++ [x])) (l : List α) : P l := by
  have h : ∀ r : List α, P r.reverse := by
    intro r
    induction r with
    | nil => exact h0
    | cons x r ih => rw [List.reverse_cons]; exact hs _ _ ih
  have := h l.reverse
  rwa [List.reverse_reverse] at this
def markOf (zs : List Tm) (k : Int) : List UInt8 := zs.foldl (fun is z => if markP z.1 ∧ z.2 = k ∧ is ≠ [126] then z.1 else is) []
def termsR (m : Nat) (zs : List Tm) : List Tm := (List.range m).filterMap fun (p : Nat) => if markOf zs (p : Int) = [] then none else some (markOf zs (p : Int), (p : Int))
def declsR (zs : List Tm) : List Tm := zs.filter fun z => !decide (markP z.1)
def termsT (m : Nat) (t : Ty) : Ty := ⟨t.kind, [], t.n, (declsR (zips t) ++ termsR m (zips t)).map (·.1), (declsR (zips t) ++ termsR m (zips t)).map (·.2)⟩
def addTm (a : List Tm) (z : Tm) : List Tm := match a.findIdx? (·.2 == z.2) with
  | none => a ++ [z]
  | some k => if z.1 = [126] then a.set k z else a
def termsA (zs : List Tm) : List Tm := zs.foldl (fun a z => if markP z.1 then addTm a z else a) []
theorem markOf_snoc (zs : List Tm) (z : Tm) (k : Int) : markOf (zs ++ [z]) k = if markP z.1 ∧ z.2 = k ∧ markOf zs k ≠ [126] then z.1 else markOf zs k := by
  unfold markOf; rw [List.foldl_append]; rfl
theorem termsA_snoc (zs : List Tm) (z : Tm) : termsA (zs ++ [z]) = if markP z.1 then addTm (termsA zs) z else termsA zs := by
  unfold termsA; rw [List.foldl_append]; rfl
theorem markOf_is (zs : List Tm) (k : Int) : markOf zs k = [] ∨ markP (markOf zs k) := by
  refine snocInd (P := fun zs => markOf zs k = [] ∨ markP (markOf zs k)) ?_ ?_ zs
  · exact .inl rfl
  intro zs z ih
  rw [markOf_snoc]
  split
  · exact .inr ‹_ ∧ _›.1
  exact ih
theorem idx_none {a : List Tm} {k : Int} (h : a.findIdx? (·.2 == k) = none) : k ∉ a.map (·.2) := by
  intro hm
  obtain ⟨x, hx, e⟩ := List.mem_map.1 hm
  have := List.findIdx?_eq_none_iff.1 h x hx
  simp [e] at this
theorem idx_some {a : List Tm} {k : Int} {j : Nat} (h : a.findIdx? (·.2 == k) = some j) : ∃ hj : j < a.length, a[j].2 = k := by
  obtain ⟨hj, h1, _⟩ := List.findIdx?_eq_some_iff_getElem.1 h
  exact ⟨hj, by simpa using h1⟩
theorem addTm_kids (a : List Tm) (z : Tm) : (addTm a z).map (·.2) = if z.2 ∈ a.map (·.2) then a.map (·.2) else a.map (·.2) ++ [z.2] := by
  unfold addTm
  cases h : a.findIdx? (·.2 == z.2) with
  | none => rw [if_neg (idx_none h)]; simp
  | some j =>
    obtain ⟨hj, e⟩ := idx_some h
    rw [if_pos (List.mem_map.2 ⟨_, List.getElem_mem hj, e⟩)]
    simp only
    split
    · rw [List.map_set]
      have : z.2 = (a.map (·.2))[j]'(by simpa using hj) := by simp [e]
      rw [this]; exact List.set_getElem_self _
    rfl
theorem termsA_is (zs : List Tm) : ((termsA zs).map (·.2)).Nodup ∧ ∀ x : Tm, x ∈ termsA zs ↔ x.1 = markOf zs x.2 ∧ x.1 ≠ [] := by
  refine snocInd (P := fun zs => ((termsA zs).map (·.2)).Nodup ∧ ∀ x : Tm, x ∈ termsA zs ↔ x.1 = markOf zs x.2 ∧ x.1 ≠ []) ?_ ?_ zs
  · exact ⟨by simp [termsA], fun x => by simp [termsA, markOf]⟩
  intro zs z ih
  obtain ⟨hn, hm⟩ := ih
  rw [termsA_snoc]
  by_cases c : markP z.1
  · rw [if_pos c]
    have hz0 : z.1 ≠ [] := by rcases c with e | e <;> rw [e] <;> simp
    have hmem : z.2 ∈ (termsA zs).map (·.2) ↔ markOf zs z.2 ≠ [] := by
      constructor
      · intro h
        obtain ⟨x, hx, e⟩ := List.mem_map.1 h
        have := (hm x).1 hx
        rw [← e, ← this.1]; exact this.2
      exact fun h => List.mem_map.2 ⟨(markOf zs z.2, z.2), (hm _).2 ⟨rfl, h⟩, rfl⟩
    constructor
    · rw [addTm_kids]
      split
      · exact hn
      rename_i h
      exact List.nodup_append.2 ⟨hn, by simp, fun a ha b hb => by
        have : b = z.2 := by simpa using hb
        subst this; intro e; subst e; exact h ha⟩
    intro x
    rw [markOf_snoc]
    unfold addTm
    cases h : (termsA zs).findIdx? (·.2 == z.2) with
    | none =>
      have hno := idx_none h
      have h0 : markOf zs z.2 = [] := by
        rcases Classical.em (markOf zs z.2 = []) with k | k
        · exact k
        exact absurd (hmem.2 k) hno
      simp only [List.mem_append, List.mem_singleton]
      constructor
      · rintro (hx | rfl)
        · have := (hm x).1 hx
          have hne : z.2 ≠ x.2 := fun e => hno (e ▸ List.mem_map.2 ⟨x, hx, rfl⟩)
          rw [if_neg (fun k => hne k.2.1)]; exact this
        rw [if_pos ⟨c, rfl, by rw [h0]; simp⟩]; exact ⟨rfl, hz0⟩
      rintro ⟨h1, h2⟩
      by_cases e : z.2 = x.2
      · rw [if_pos ⟨c, e, by rw [← e, h0]; simp⟩] at h1
        exact .inr (Prod.ext h1 e.symm)
      rw [if_neg (fun k => e k.2.1)] at h1
      exact .inl ((hm x).2 ⟨h1, h2⟩)
    | some j =>
      obtain ⟨hj, ej⟩ := idx_some h
      have hjm := (hm _).1 (List.getElem_mem hj)
      simp only
      have huniq : ∀ y ∈ termsA zs, y.2 = z.2 → y = (termsA zs)[j] := by
        intro y hy e
        have := (hm y).1 hy
        refine Prod.ext ?_ (e.trans ej.symm)
        rw [this.1, hjm.1, e, ej]
      by_cases ct : z.1 = [126]
      · rw [if_pos ct]
        have hset : ∀ y : Tm, y ∈ (termsA zs).set j z ↔ y = z ∨ (y ∈ termsA zs ∧ y.2 ≠ z.2) := by
          intro y
          rw [List.mem_iff_getElem?]
          constructor
          · rintro ⟨q, hq⟩
            by_cases e : j = q
            · subst e; rw [List.getElem?_set_self hj] at hq; exact .inl (Option.some.inj hq).symm
            rw [List.getElem?_set_ne e] at hq
            have hyq := List.mem_of_getElem? hq
            refine .inr ⟨hyq, fun e2 => e ?_⟩
            have hql : q < (termsA zs).length := by
              rcases Nat.lt_or_ge q (termsA zs).length with k | k
              · exact k
              simp [List.getElem?_eq_none k] at hq
            have e3 : (termsA zs)[q] = y := by rw [List.getElem?_eq_getElem hql] at hq; exact Option.some.inj hq
            have e4 : ((termsA zs).map (·.2))[j]'(by simpa using hj) = ((termsA zs).map (·.2))[q]'(by simpa using hql) := by
              simp only [List.getElem_map]; rw [e3, e2, ej]
            exact (List.getElem_inj (h₀ := by simpa using hj) (h₁ := by simpa using hql) hn).1 e4
          rintro (rfl | ⟨hy, hne⟩)
          · exact ⟨j, List.getElem?_set_self hj⟩
          obtain ⟨q, hq, rfl⟩ := List.getElem_of_mem hy
          refine ⟨q, ?_⟩
          rw [List.getElem?_set_ne (fun e => hne (by subst e; exact ej)), List.getElem?_eq_getElem hq]
        rw [hset]
        constructor
        · rintro (rfl | ⟨hx, hne⟩)
          · refine ⟨?_, hz0⟩
            by_cases e : markOf zs x.2 = [126]
            · rw [if_neg (fun k => k.2.2 e), e]; exact ct
            rw [if_pos ⟨c, rfl, e⟩]
          rw [if_neg (fun k => hne k.2.1.symm)]; exact (hm x).1 hx
        rintro ⟨h1, h2⟩
        by_cases e : z.2 = x.2
        · left
          refine Prod.ext ?_ e.symm
          by_cases e2 : markOf zs x.2 = [126]
          · rw [if_neg (fun k => k.2.2 e2), e2] at h1; rw [h1, ct]
          rw [if_pos ⟨c, e, e2⟩] at h1; exact h1
        rw [if_neg (fun k => e k.2.1)] at h1
        exact .inr ⟨(hm x).2 ⟨h1, h2⟩, fun k => e k.symm⟩
      rw [if_neg ct]
      have hz61 : z.1 = [61] := c.resolve_right ct
      constructor
      · intro hx
        have := (hm x).1 hx
        by_cases e : z.2 = x.2
        · by_cases e2 : markOf zs x.2 = [126]
          · rw [if_neg (fun k => k.2.2 e2)]; exact this
          rw [if_pos ⟨c, e, e2⟩]
          have h5 : markP (markOf zs x.2) := (markOf_is zs x.2).resolve_left (by rw [← this.1]; exact this.2)
          exact ⟨by rw [this.1, hz61]; exact h5.resolve_right e2, this.2⟩
        rw [if_neg (fun k => e k.2.1)]; exact this
      rintro ⟨h1, h2⟩
      by_cases e : z.2 = x.2
      · have h5 : markP (markOf zs z.2) := (markOf_is zs z.2).resolve_left (by rw [← ej, ← hjm.1]; exact hjm.2)
        by_cases e2 : markOf zs x.2 = [126]
        · rw [if_neg (fun k => k.2.2 e2)] at h1; exact (hm x).2 ⟨h1, h2⟩
        rw [if_pos ⟨c, e, e2⟩] at h1
        refine (hm x).2 ⟨?_, h2⟩
        rw [h1, hz61, ← e]; rw [← e] at e2; exact (h5.resolve_right e2).symm
      rw [if_neg (fun k => e k.2.1)] at h1
      exact (hm x).2 ⟨h1, h2⟩
  rw [if_neg c]
  refine ⟨hn, fun x => ?_⟩
  rw [markOf_snoc, if_neg (fun k => c k.1)]
  exact hm x
theorem termsR_mem (m : Nat) (zs : List Tm) (x : Tm) : x ∈ termsR m zs ↔ x.1 = markOf zs x.2 ∧ x.1 ≠ [] ∧ 0 ≤ x.2 ∧ x.2 < m := by
  unfold termsR
  rw [List.mem_filterMap]
  constructor
  · rintro ⟨p, hp, e⟩
    have hpm := List.mem_range.1 hp
    split at e
    · cases e
    injection e with e; subst e
    exact ⟨rfl, ‹_›, by simp only; omega, by simp only; omega⟩
  rintro ⟨h1, h2, h3, h4⟩
  refine ⟨x.2.toNat, List.mem_range.2 Jb, ?_⟩
  have e : ((x.2.toNat : Nat) : Int) = x.2 := by omega
  rw [e, if_neg (by rw [← h1]; exact h2), ← h1]
theorem termsR_sorted (m : Nat) (zs : List Tm) : (termsR m zs).Pairwise fun x y => x.2 < y.2 := by
  unfold termsR
  refine List.Pairwise.filterMap (R := fun (a b : Nat) => a < b) _ ?_ List.pairwise_lt_range
  intro a b hab x hx y hy
  split at hx
  · cases hx
  split at hy
  · cases hy
  injection hx with hx; injection hy with hy; subst hx hy; simp only; omega
theorem markOf_kid (zs : List Tm) (k : Int) (h : markOf zs k ≠ []) : ∃ z ∈ zs, markP z.1 ∧ z.2 = k := by
  revert h
  refine snocInd (P := fun zs => markOf zs k ≠ [] → ∃ z ∈ zs, markP z.1 ∧ z.2 = k) (fun h => absurd HZ h) ?_ zs
  intro zs z ih h
  rw [markOf_snoc] at h
  split at h
  · rename_i c; exact ⟨z, by simp, c.1, c.2.1⟩
  obtain ⟨y, hy, h2⟩ := ih h
  exact ⟨y, List.mem_append_left _ hy, h2⟩
theorem terms_sort {m : Nat} {zs : List Tm} (hz : ∀ z ∈ zs, markP z.1 → 0 ≤ z.2 ∧ z.2 < m) {lst : List Tm} (hp : lst.Perm (termsA zs)) (hs : lst.Pairwise fun x y => x.2 ≤ y.2) : lst = termsR m zs := by
  obtain ⟨hn, hm⟩ := termsA_is zs
  have hnd : (termsA zs).Nodup := by
    have h1 : (termsA zs).Pairwise fun a b => a.2 ≠ b.2 := List.pairwise_map.1 hn
    exact h1.imp fun h e => h (by rw [e])
  have hnr : (termsR m zs).Nodup := (termsR_sorted m zs).imp fun h e => by rw [e] at h; omega
  have hperm : lst.Perm (termsR m zs) := hp.trans ((List.perm_ext_iff_of_nodup hnd hnr).2 fun x => by
    rw [hm, termsR_mem]
    constructor
    · rintro ⟨h1, h2⟩
      obtain ⟨z, hz1, hz2, hz3⟩ := markOf_kid zs x.2 (by rw [← h1]; exact h2)
      have := hz z hz1 hz2
      exact ⟨h1, h2, by omega, by omega⟩
    exact fun h => ⟨h.1, h.2.1⟩)
  refine List.Perm.eq_of_pairwise (le := fun x y => x.2 ≤ y.2) ?_ hs ((termsR_sorted m zs).imp fun h => by omega) hperm
  intro a b ha hb h1 h2
  have ha2 := (termsR_mem m zs a).1 (hperm.mem_iff.1 ha)
  have hb2 := (termsR_mem m zs b).1 hb
  have e : a.2 = b.2 := by omega
  exact Prod.ext (by rw [ha2.1, hb2.1, e]) e
def oddP (l : List Ty) (t : Ty) : Prop := ∃ z ∈ zips t, markP z.1 ∧ (kindAt l z.2 = 7 ∨ kindAt l z.2 = 9 ∨ (14 ≤ z.2 ∧ z.2 ≤ 19))
open Classical in
noncomputable def addF (l : List Ty) (t : Ty) : List Ty × Int × Int := if h : ∃ p : List Ty × Int × Int, AddP l t p.1 p.2.1 p.2.2 then h.choose else ([], 0, 0)
theorem addF_is {l : List Ty} {t : Ty} {m : List Ty} {i e : Int} (hr : rightP l) (h : AddP l t m i e) : addF l t = (m, i, e) := by
  have hx : ∃ p : List Ty × Int × Int, AddP l t p.1 p.2.1 p.2.2 := ⟨(m, i, e), h⟩
  unfold addF
  rw [dif_pos hx]
  obtain ⟨h1, h2, h3⟩ := addP_one hr hx.choose_spec h
  exact Prod.ext h1 (Prod.ext h2 h3)
def mapK (ins : List Int) (t : Ty) : Ty := ⟨t.kind, t.name, t.n, t.words, t.kids.map fun k => ins.getD k.toNat 0⟩
open Classical in
noncomputable def putS (out : List Ty) (ins : List Int) (t : Ty) : Except Int (List Ty × List Int) :=
  if t.kind = 7 ∧ oddP out t then .error 11
  else if (addF out (if t.kind = 7 then termsT out.length t else t)).2.2 = 0 then .ok ((addF out (if t.kind = 7 then termsT out.length t else t)).1, ins ++ [(addF out (if t.kind = 7 then termsT out.length t else t)).2.1])
  else .error (addF out (if t.kind = 7 then termsT out.length t else t)).2.2
noncomputable def stepS (l : List Ty) (args A : List Int) (M : List Bool) (n : Nat) (out : List Ty) (ins : List Int) : Except Int (List Ty × List Int) :=
  if M.getD n false = false ∨ A.getD n 0 = 0 then .ok (out, ins ++ [(n : Int)])
  else if (l.getD n (basicT [])).kind = 9 then .ok (out, ins ++ [args.getD (l.getD n (basicT [])).n.toNat 0])
  else putS out ins (mapK ins (l.getD n (basicT [])))
noncomputable def subN (l : List Ty) (args A : List Int) (M : List Bool) : Nat → Except Int (List Ty × List Int)
  | 0 => .ok (l, [])
  | n + 1 => match subN l args A M n with
    | .error e => .error e
    | .ok (out, ins) => stepS l args A M n out ins
def badArgs (l : List Ty) (i : Nat) (args : List Int) : Prop := (args.length : Int) < (asksL (l.take (i + 1))).getD i 0 ∨ ∃ a ∈ args, ¬(0 ≤ a ∧ a < l.length)
open Classical in
noncomputable def subR (l : List Ty) (i : Nat) (args : List Int) : Except Int (List Ty × Int) :=
  if badArgs l i args then .error 1 else match subN l args (asksL (l.take (i + 1))) (partsL l i) (i + 1) with
    | .error e => .error e
    | .ok (out, ins) => .ok (out, ins.getD i 0)
theorem subN_error {l : List Ty} {args A : List Int} {M : List Bool} {n : Nat} {e : Int} (h : subN l args A M n = .error e) : ∀ d, subN l args A M (n + d) = .error e
  | 0 => h
  | d + 1 => by rw [← Nat.add_assoc, subN, subN_error h d]
structure SubOk (l : List Ty) (n : Nat) (out : List Ty) (ins : List Int) : Prop where
  right : rightP out
  pre : l <+: out
  len : ins.length = n
  ins : ∀ p : Nat, p < n → 0 ≤ ins.getD p 0 ∧ ins.getD p 0 < out.length
theorem mapK_kids {ins : List Int} {out : List Ty} {n : Nat} (h : ∀ p : Nat, p < n → 0 ≤ ins.getD p 0 ∧ ins.getD p 0 < out.length) {t : Ty} (ht : ∀ k ∈ t.kids, 0 ≤ k ∧ k < n) : ∀ k ∈ (mapK ins t).kids, 0 ≤ k ∧ k < out.length := by
  intro k hk
  obtain ⟨x, hx, rfl⟩ := List.mem_map.1 hk
  have := ht x hx
  exact h x.toNat Jb
theorem SubOk.step {l : List Ty} {n : Nat} {out : List Ty} {ins : List Int} (h : SubOk l n out ins) {m : List Ty} {k : Int} (hm : rightP m) (hp : out <+: m) (hk : 0 ≤ k ∧ k < m.length) : SubOk l (n + 1) m (ins ++ [k]) := by
  refine ⟨hm, h.pre.trans hp, by rw [List.length_append, h.len]; rfl, fun p hpn => ?_⟩
  have hl := hp.length_le
  rcases Nat.lt_or_ge p n with c | c
  · rw [getD_app _ _ _ (by rw [h.len]; exact c)]
    have := h.ins p c
    omega
  have e : p = ins.length := by have := h.len; omega
  subst e
  simpa [List.getD_eq_getElem?_getD] using hk
theorem add_pre {l : List Ty} {t : Ty} {m : List Ty} {i e : Int} (hr : rightP l) (h : AddP l t m i e) (he : e = 0) : rightP m ∧ l <+: m ∧ 0 ≤ i ∧ i < m.length := by
  rcases h with ⟨q, hq, h1, h2, h3, h4⟩ | ⟨n, ⟨_, h2, _, h4⟩ | ⟨_, _, h2, _, h4⟩ | ⟨hm, hl, h2, h3, h4⟩⟩
  · subst h2; exact ⟨hr, List.prefix_rfl, by omega, by omega⟩
  · omega
  · omega
  subst h2
  have h400 := hr.2.1
  exact ⟨right_snoc hr n hm Jb, List.prefix_append _ _, by omega, by rw [List.length_append]; simp only [List.length_cons, List.length_nil]; omega⟩
theorem declsR_snoc (zs : List Tm) (z : Tm) : declsR (zs ++ [z]) = if markP z.1 then declsR zs else declsR zs ++ [z] := by
  unfold declsR
  rw [List.filter_append]
  by_cases c : markP z.1
  · simp [c]
  simp [c]
end Go.Sy
namespace Go.Sy
abbrev GT := @rt_of_right
end Go.Sy
namespace Go.Sy
open Go Go.Proofs Go.RowKit
abbrev eBl (b : Bool) : List D := [.val (.bool b)]
abbrev fI (l : List Int) (a : Option Addr) (k c : Nat) : Fact := .slc (.slice a k c) 1 (l.map eI)
abbrev fB (l : List Bool) (a : Option Addr) (k c : Nat) : Fact := .slc (.slice a k c) 1 (l.map eBl)
theorem blt_of {a b : Nat} (h : a < b) : Nat.blt a b = true := by show Nat.ble (a + 1) b = true; rw [Nat.ble_eq]; exact h
theorem setA {α : Type} {f : α → Value} {A R : List α} {x v : α} {q : Nat} (hA : A.length = q) : ((A ++ x :: R).map f).set (0 + q * 1) (f v) = (A ++ v :: R).map f := by
  subst hA
  rw [Nat.zero_add, Nat.mul_one, ← List.map_set, List.set_append_right _ _ (Nat.le_refl _)]; simp
theorem getA {α : Type} {f : α → Value} {A R : List α} {x : α} {q : Nat} (hA : A.length = q) : ((A ++ x :: R).map f)[0 + q * 1]? = some (f x) := by
  subst hA; simp
theorem getB {α : Type} {f : α → Value} {A R : List α} {q : Nat} (z : α) (hq : q < A.length) : ((A ++ R).map f)[0 + q * 1]? = some (f (A.getD q z)) := by
  rw [Nat.zero_add, Nat.mul_one, List.getElem?_map, List.getElem?_append_left hq, List.getElem?_eq_getElem hq, List.getD_eq_getElem?_getD, List.getElem?_eq_getElem hq]; rfl
theorem rep_step {α : Type} (z : α) {i q : Nat} (h : q < i + 1) : List.replicate (i + 1 - q) z = z :: List.replicate (i - q) z := by
  have e : i + 1 - q = (i - q) + 1 := by omega
  rw [e, List.replicate_succ]
theorem asks_pos {l : List Ty} {q : Nat} (hq : q < l.length) {k : Int} (hk : 0 ≤ k ∧ k < q) : k.toNat < (asksL (l.take q)).length := by rw [asks_len l q Jb]; omega
theorem max_ask (A : List Int) {t : Ty} {v : Nat} (hv : v < t.kids.length) : max (askK A (ask0 t) (t.kids.take v)) (A.getD t.kids[v].toNat 0) = askK A (ask0 t) (t.kids.take (v + 1)) := (askK_snoc A _ _ hv).symm
theorem ask_next {l : List Ty} {i q : Nat} (hq : q < l.length) : (asksL (l.take q) ++ askK (asksL (l.take q)) (ask0 l[q]) l[q].kids :: List.replicate (i - q) 0) = asksL (l.take (q + 1)) ++ List.replicate (i + 1 - (q + 1)) 0 := by
  have e : i + 1 - (q + 1) = i - q := by omega
  rw [e, asks_step hq]; simp [ask1]
attribute [local irreducible] AC AT AO AK AH ACalls Sub Res.cells Res.obj Res.nix Res.own Res.map Exit.then Exit.inBlock bodyPost Code.wp Code.wpIn WL Next Post Kont
section
variable {W0 : World} {L : List Res} {F : List Fact} {R : Value → List Res → List Fact → Prop}
set_option maxRecDepth 100000
set_option maxHeartbeats 4000000
theorem asks_c (l : List Ty) (hr : rightP l) (i : Nat) (hi : i < l.length) {a : Option Addr} {k c : Nat} (mL : fL l a k c ∈ F) (h : ∀ a k c, R (.slice a k c) L (fI (asksL (l.take (i + 1))) a k c :: F)) : ACalls Tryz.prog W0 172 #[.slice a k c, .int .i64 (i : Int)] L F R := by
  have h400 := hr.2.1
  refine Gg Tryz.func172 HZ Tryz.ntmps172 HZ ?_
  refine qs 9 ?_
  refine Ga (AO.makeSlice1 (m := i + 1) HZ HZ HZ Jb Jb Jb HZ (fun b12 => ?_))
  refine qs 9 ?_
  refine Ga (AO.sliceH (j' := i + 1) HZ HZ HZ Jb (enc := eTy) (lst := l) memA Jb (fun a16 k16 c16 => ?_))
  have htl : (l.take (i + 1)).length = i + 1 := by rw [List.length_take]; omega
  refine Ga (Gt HZ HZ (fun hl17 => ?_) (hm := by repeat (first | exact mem0 | assumption | refine memS ?_)))
  refine qs 4 ?_
  refine GB (fun (q : Nat) => q ≤ i + 1) (fun q => [(5, .slice (some ⟨b12, 0, none⟩) (i + 1) (i + 1)), (16, .slice a16 k16 c16), (17, .int .i64 (l.take (i + 1)).length), (18, .int .i64 (q : Int))]) (fun q => Res.cells b12 ((asksL (l.take q) ++ List.replicate (i + 1 - q) 0).map (Value.int .i64)).toArray 3 :: L) (fun _ => _) (fun q => i + 1 - q) 0 (Nat.zero_le _) srA (Hk (by simp [asksL])) ?_
  rintro q hq
  refine qs 2 ?_
  refine Ga (Gw HZ HZ HZ (fun c19 => ?_) (fun c19 => ?_))
  ·refine qs 11 ?_
   have hqi : q < i + 1 := by omega
   have hql : q < l.length := by omega
   have hqt : q < (l.take (i + 1)).length := by omega
   have hget : (l.take (i + 1))[q] = l[q] := List.getElem_take
   have hAl := asks_len l q Jb
   have hrt := GT hr hql
   rw [rep_step 0 hqi]
   refine Ga (Gd HZ HZ HZ HZ (enc := eTy) (lst := l.take (i + 1)) memA hqt (fun _ _ => ?_))
   rw [hget]
   refine Ga (GN HZ HZ ?_)
   intro a22 k22 z22 d22 e22 f22
   refine Ga (Gj HZ (fun b7 => ?_))
   refine qs 9 ?_
   refine Ga (Gr HZ HZ HZ (fun c25 => ?_) (fun c25 => ?_))
   ·refine qs 8 ?_
    have hp := hrt.param c25
    refine Ga (AO.add HZ HZ HZ Jb Jb ?_)
    refine Ga (AO.ofY (GE (k := q) HZ HZ HZ Jb) HZ ?_)
    refine Ga (GM (v := .int .i64 (l[q].n + 1)) (cs := (asksL (l.take q) ++ 0 :: List.replicate (i - q) 0).map (Value.int .i64)) HZ HZ HZ ?_ (ho := blt_of (by simp; omega)))
    rw [setA hAl]
    refine qs 6 ?_
    refine Ga (Gt HZ HZ (fun hl34 => ?_) (enc := eI) (lst := l[q].kids) (hm := memA))
    refine qs 4 ?_
    rw [show l[q].n + 1 = ask0 l[q] from (if_pos c25).symm]
    refine GB (fun (v : Nat) => v ≤ l[q].kids.length) (fun v => [(5, .slice (some ⟨b12, 0, none⟩) (i + 1) (i + 1)), (16, .slice a16 k16 c16), (17, .int .i64 (l.take (i + 1)).length), (18, .int .i64 (q : Int)), (6, .int .i64 (q : Int)), (7, .pointer (some ⟨b7, 0, none⟩)), (33, .slice d22 e22 f22), (34, .int .i64 l[q].kids.length), (35, .int .i64 (v : Int))]) (fun v => _ :: Res.cells b12 ((asksL (l.take q) ++ askK (asksL (l.take q)) (ask0 l[q]) (l[q].kids.take v) :: List.replicate (i - q) 0).map (Value.int .i64)).toArray 3 :: L) (fun _ => _) (fun v => l[q].kids.length - v) 0 (Nat.zero_le _) srA (Gf _ _) ?_
    rintro v hv
    refine qs 2 ?_
    refine Ga (Gw HZ HZ HZ (fun c36 => ?_) (fun c36 => ?_))
    ·refine qs 10 ?_
     have hvl : v < l[q].kids.length := by omega
     have hb := hrt.kids _ (List.getElem_mem hvl)
     refine Ga (Gd HZ HZ HZ HZ (show fK l[q] _ _ _ ∈ _ from memA) hvl (fun _ _ => ?_))
     refine Ga (Gs HZ HZ ?_)
     intros
     refine qs 3 ?_
     refine GP (fun i => Nat.beq i 12) [(b12, _, _)] bxA HZ (fun hx hX => ?_)
     refine qt [0, 1, 2, 3, 4] ?_
     refine GR (i := 5) HZ (Y.loadB HZ (List.Mem.head _) (getA hAl)) Ja Ja HZ HZ HZ ?_
     refine qt [6, 7] ?_
     refine GD (i := 8) HZ (GE (k := l[q].kids[v].toNat) HZ HZ Jb Jb) Ja HZ HZ ?_
     refine GR (i := 9) HZ (Y.loadB HZ (List.Mem.head _) (getB 0 (asks_pos hql hb))) Ja Ja HZ HZ HZ ?_
     refine qt [10, 11] ?_
     refine Gm (i := 12) Ja HZ HZ (fun _ => ?_)
     rw [max_ask _ hvl]
     refine GM (v := .int .i64 (askK (asksL (l.take q)) (ask0 l[q]) (l[q].kids.take (v + 1)))) (cs := (asksL (l.take q) ++ askK (asksL (l.take q)) (ask0 l[q]) (l[q].kids.take v) :: List.replicate (i - q) 0).map (Value.int .i64)) HZ HZ HZ ?_ (ho := blt_of (by simp; omega))
     rw [setA hAl]
     refine GC HZ ?_
     refine Gq Ja ?_
     refine qs 6 ?_
     refine Gk (v + 1) Jb Jb srA subF
    refine qs 14 ?_
    refine Gk (q + 1) Jb Jb srA (Sub.drop.trans ?_)
    have hkt : l[q].kids.take v = l[q].kids := List.take_of_length_le Jb
    rw [hkt, ask_next hql]
    exact subF
   refine qs 9 ?_
   refine Ga (Gt HZ HZ (fun hl34 => ?_) (enc := eI) (lst := l[q].kids) (hm := memA))
   refine qs 4 ?_
   rw [show (0 : Int) :: List.replicate (i - q) 0 = ask0 l[q] :: List.replicate (i - q) 0 by rw [show ask0 l[q] = 0 from if_neg c25]]
   refine GB (fun (v : Nat) => v ≤ l[q].kids.length) (fun v => [(5, .slice (some ⟨b12, 0, none⟩) (i + 1) (i + 1)), (16, .slice a16 k16 c16), (17, .int .i64 (l.take (i + 1)).length), (18, .int .i64 (q : Int)), (6, .int .i64 (q : Int)), (7, .pointer (some ⟨b7, 0, none⟩)), (33, .slice d22 e22 f22), (34, .int .i64 l[q].kids.length), (35, .int .i64 (v : Int))]) (fun v => _ :: Res.cells b12 ((asksL (l.take q) ++ askK (asksL (l.take q)) (ask0 l[q]) (l[q].kids.take v) :: List.replicate (i - q) 0).map (Value.int .i64)).toArray 3 :: L) (fun _ => _) (fun v => l[q].kids.length - v) 0 (Nat.zero_le _) srA (Gf _ _) ?_
   rintro v hv
   refine qs 2 ?_
   refine Ga (Gw HZ HZ HZ (fun c36 => ?_) (fun c36 => ?_))
   ·refine qs 10 ?_
    have hvl : v < l[q].kids.length := by omega
    have hb := hrt.kids _ (List.getElem_mem hvl)
    refine Ga (Gd HZ HZ HZ HZ (show fK l[q] _ _ _ ∈ _ from memA) hvl (fun _ _ => ?_))
    refine Ga (Gs HZ HZ ?_)
    intros
    refine qs 3 ?_
    refine GP (fun i => Nat.beq i 12) [(b12, _, _)] bxA HZ (fun hx hX => ?_)
    refine qt [0, 1, 2, 3, 4] ?_
    refine GR (i := 5) HZ (Y.loadB HZ (List.Mem.head _) (getA hAl)) Ja Ja HZ HZ HZ ?_
    refine qt [6, 7] ?_
    refine GD (i := 8) HZ (GE (k := l[q].kids[v].toNat) HZ HZ Jb Jb) Ja HZ HZ ?_
    refine GR (i := 9) HZ (Y.loadB HZ (List.Mem.head _) (getB 0 (asks_pos hql hb))) Ja Ja HZ HZ HZ ?_
    refine qt [10, 11] ?_
    refine Gm (i := 12) Ja HZ HZ (fun _ => ?_)
    rw [max_ask _ hvl]
    refine GM (v := .int .i64 (askK (asksL (l.take q)) (ask0 l[q]) (l[q].kids.take (v + 1)))) (cs := (asksL (l.take q) ++ askK (asksL (l.take q)) (ask0 l[q]) (l[q].kids.take v) :: List.replicate (i - q) 0).map (Value.int .i64)) HZ HZ HZ ?_ (ho := blt_of (by simp; omega))
    rw [setA hAl]
    refine GC HZ ?_
    refine Gq Ja ?_
    refine qs 6 ?_
    refine Gk (v + 1) Jb Jb srA subF
   refine qs 14 ?_
   refine Gk (q + 1) Jb Jb srA (Sub.drop.trans ?_)
   have hkt : l[q].kids.take v = l[q].kids := List.take_of_length_le Jb
   rw [hkt, ask_next hql]
   exact subF
  refine qs 11 ?_
  refine Ga (HV HZ HZ ?_)
  have hq9 : q = i + 1 := by omega
  subst hq9
  rw [Nat.sub_self, List.replicate_zero, List.append_nil]
  have hAl := asks_len l (i + 1) Jb
  refine GH ((Hg (i := 0) (enc := eI) (sz := 1) (k := i + 1) (asksL (l.take (i + 1))) HZ (cells_I _) (fun _ => rfl) hAl (by simp only [maxLen]; omega)).trans Gv) ?_
  refine qs 4 ?_
  exact Gb (L' := L) (F' := fI (asksL (l.take (i + 1))) _ _ _ :: F) Tryz.results172 rfl (GX (fun x hx => by repeat (first | exact hx | refine List.mem_cons_of_mem _ ?_))) (h _ _ _)
end
end Go.Sy
namespace Go.Sy
open Go Go.Proofs Go.RowKit
theorem setM {α : Type} {f : α → Value} {M : List α} {v : α} {q : Nat} : (M.map f).set (0 + q * 1) (f v) = (M.set q v).map f := by
  rw [Nat.zero_add, Nat.mul_one, ← List.map_set]
theorem getM {α : Type} {f : α → Value} {M : List α} {q : Nat} (z : α) (hq : q < M.length) : (M.map f)[0 + q * 1]? = some (f (M.getD q z)) := by
  have := getB (f := f) (A := M) (R := []) z hq
  rwa [List.append_nil] at this
theorem part_no {l : List Ty} {i j : Nat} (h : (partsN l i j).getD (i - j) false = false) : partsN l i j = partsN l i (j + 1) := by
  rw [partsN, partStep, if_neg (by rw [h]; simp)]
theorem part_yes {l : List Ty} {i j : Nat} (hi : i < l.length) (h : (partsN l i j).getD (i - j) false = true) : markK (partsN l i j) (l[i - j]'Jb).kids = partsN l i (j + 1) := by
  rw [partsN, partStep, if_pos h, row_kid hi (Nat.sub_le i j)]
theorem eI_get {A : List Int} {q : Nat} (hq : q < A.length) : (A.map eI)[q]? = some [.val (.int .i64 (A.getD q 0))] := by
  rw [List.getElem?_map, List.getElem?_eq_getElem hq, List.getD_eq_getElem?_getD, List.getElem?_eq_getElem hq]; rfl
theorem eB_get {A : List Bool} {q : Nat} (hq : q < A.length) : (A.map eBl)[q]? = some [.val (.bool (A.getD q false))] := by
  rw [List.getElem?_map, List.getElem?_eq_getElem hq, List.getD_eq_getElem?_getD, List.getElem?_eq_getElem hq]; rfl
theorem eB_set {A : List Bool} {q : Nat} {b : Bool} : (A.map eBl).set q [.val (.bool b)] = (A.set q b).map eBl := by rw [List.map_set]
theorem ask_up {A : List Int} {m : Int} {ks : List Int} {v : Nat} (hv : v < ks.length) (h : askK A m (ks.take v) < A.getD ks[v].toNat 0) : A.getD ks[v].toNat 0 = askK A m (ks.take (v + 1)) := by rw [askK_snoc _ _ _ hv]; omega
theorem ask_no {A : List Int} {m : Int} {ks : List Int} {v : Nat} (hv : v < ks.length) (h : A.getD ks[v].toNat 0 ≤ askK A m (ks.take v)) : askK A m (ks.take v) = askK A m (ks.take (v + 1)) := by rw [askK_snoc _ _ _ hv]; omega
attribute [local irreducible] AC AT AO AK AH ACalls Sub Res.cells Res.obj Res.nix Res.own Res.map Exit.then Exit.inBlock bodyPost Code.wp Code.wpIn WL Next Post Kont
section
variable {W0 : World} {L : List Res} {F : List Fact} {R : Value → List Res → List Fact → Prop}
set_option maxRecDepth 100000
set_option maxHeartbeats 4000000
theorem parts_c (l : List Ty) (hr : rightP l) (i : Nat) (hi : i < l.length) {a : Option Addr} {k c : Nat} (mL : fL l a k c ∈ F) (h : ∀ a k c, R (.slice a k c) L (fB (partsL l i) a k c :: F)) : ACalls Tryz.prog W0 174 #[.slice a k c, .int .i64 (i : Int)] L F R := by
  have h400 := hr.2.1
  refine Gg Tryz.func174 HZ Tryz.ntmps174 HZ ?_
  refine qs 9 ?_
  refine Ga (AO.makeSlice1 (m := i + 1) HZ HZ HZ Jb Jb Jb HZ (fun b11 => ?_))
  refine GH (Hk (L' := Res.cells b11 ((List.replicate (i + 1) false).map Value.bool).toArray 4 :: L) (by simp)) ?_
  refine qs 7 ?_
  refine Ga (AO.ofY (GE (k := i) HZ HZ HZ Jb) HZ ?_)
  refine Ga (GM (v := .bool true) (cs := (List.replicate (i + 1) false).map Value.bool) HZ HZ HZ ?_ (ho := blt_of (by simp)))
  rw [setM]
  refine qs 10 ?_
  refine GB (fun (j : Nat) => j ≤ i + 1) (fun j => [(0, .slice a k c), (5, .slice (some ⟨b11, 0, none⟩) (i + 1) (i + 1)), (6, .int .i64 ((i : Int) - (j : Int)))]) (fun j => Res.cells b11 ((partsN l i j).map Value.bool).toArray 4 :: L) (fun _ => F) (fun j => i + 1 - j) 0 (Nat.zero_le _) (by have e0 : (i : Int) - ((0 : Nat) : Int) = (i : Int) := Int.sub_zero _; simp only [e0]; exact srA) (Gf _ _) ?_
  rintro j hj
  have hMl := partsN_len l i j
  refine qs 4 ?_
  refine Ga (GY HZ HZ HZ (fun c17 => ?_) (fun c17 => ?_))
  ·refine qs 12 ?_
   refine Ga (AO.ofY (GE (k := i - j) HZ HZ Jb Jb) HZ ?_)
   refine Ga (Gy (v := .bool ((partsN l i j).getD (i - j) false)) HZ HZ ?_ (hv := getM false Jb))
   refine qs 3 ?_
   refine AC.cond HZ (fun c24 => ?_) (fun c24 => ?_)
   ·refine qs 9 ?_
    rw [show (i : Int) - (j : Int) - 1 = (i : Int) - ((j + 1 : Nat) : Int) by omega]
    refine Gk (j + 1) Jb Jb srA ?_
    rw [part_no (by simpa using c24)]
    exact subF
   refine qs 6 ?_
   have hij : i - j < l.length := by omega
   refine Ga (Gd (k := i - j) HZ HZ HZ Jb (enc := eTy) (lst := l) memA hij (fun _ _ => ?_))
   refine Ga (Ha HZ HZ (fun _ => ?_))
   refine Ga (Gs HZ HZ ?_)
   intro a29 k29 z29
   refine Ga (Gt HZ HZ (fun hl30 => ?_) (enc := eI) (lst := l[i - j].kids) (hm := memA))
   refine qs 4 ?_
   refine GB (fun (v : Nat) => v ≤ l[i - j].kids.length) (fun v => [(0, .slice a k c), (5, .slice (some ⟨b11, 0, none⟩) (i + 1) (i + 1)), (6, .int .i64 ((i : Int) - (j : Int))), (29, .slice a29 k29 z29), (30, .int .i64 l[i - j].kids.length), (31, .int .i64 (v : Int))]) (fun v => Res.cells b11 ((markK (partsN l i j) (l[i - j].kids.take v)).map Value.bool).toArray 4 :: L) (fun _ => _) (fun v => l[i - j].kids.length - v) 0 (Nat.zero_le _) srA (Gf _ _) ?_
   rintro v hv
   refine qs 2 ?_
   refine Ga (Gw HZ HZ HZ (fun c32 => ?_) (fun c32 => ?_))
   ·refine qs 10 ?_
    have hvl : v < l[i - j].kids.length := by omega
    have hb := (GT hr hij).kids _ (List.getElem_mem hvl)
    refine Ga (Gd HZ HZ HZ HZ (show fK l[i - j] _ _ _ ∈ _ from memA) hvl (fun _ _ => ?_))
    refine Ga (Gs HZ HZ ?_)
    intros
    refine qs 6 ?_
    refine Ga (AO.ofY (GE (k := l[i - j].kids[v].toNat) HZ HZ Jb Jb) HZ ?_)
    refine Ga (GM (v := .bool true) (cs := (markK (partsN l i j) (l[i - j].kids.take v)).map Value.bool) HZ HZ HZ ?_ (ho := blt_of (by rw [List.length_map, markK_len]; omega)))
    rw [setM, ← markK_snoc _ _ hvl]
    refine qs 7 ?_
    refine Gk (v + 1) Jb Jb srA subF
   refine qs 15 ?_
   rw [show (i : Int) - (j : Int) - 1 = (i : Int) - ((j + 1 : Nat) : Int) by omega]
   refine Gk (j + 1) Jb Jb srA ?_
   have hkt : l[i - j].kids.take v = l[i - j].kids := List.take_of_length_le Jb
   rw [hkt, part_yes hi (by simpa using c24)]
   exact subF
  refine qs 10 ?_
  refine Ga (HV HZ HZ ?_)
  have hj9 : j = i + 1 := by omega
  subst hj9
  refine GH ((Hg (i := 0) (enc := eBl) (sz := 1) (k := i + 1) (partsL l i) HZ (cells_B _) (fun _ => rfl) hMl (by simp only [maxLen]; omega)).trans Gv) ?_
  refine qs 4 ?_
  exact Gb (L' := L) (F' := fB (partsL l i) _ _ _ :: F) Tryz.results174 rfl (GX (fun x hx => by repeat (first | exact hx | refine List.mem_cons_of_mem _ ?_))) (h _ _ _)
end
end Go.Sy
namespace Go.Sy
open Go Go.RowKit Go.Sort Go.Proofs
theorem get_putCells {F : Array Value} {c : Array Value} {t : Nat} (ht : t < F.size) (hc : t < c.size) : (putCells id 0 F c)[t]? = some F[t]! := by
  unfold putCells
  rw [Array.getElem?_mapIdx, Array.getElem?_eq_getElem hc, Option.map_some, if_pos ⟨Nat.zero_le _, by omega⟩]
  rfl
theorem size_putCells' (F c : Array Value) : (putCells id 0 F c).size = c.size := by unfold putCells; simp
section
variable {P : Program} {W0 : World} {L : List Res} {F : List Fact} {R : Value → List Res → List Fact → Prop}
theorem ACalls.sortK {α : Type} [Inhabited α] (enc : α → List Value) {k : Nat} (hk0 : 0 < k) (hk : ∀ x, (enc x).length = k) (lt : α → α → Bool) {f : FuncId} {fv : Value}
    (hcon : ∀ (blk cap : Nat) (d : Array α) (w : World), HoldsK enc k w blk 0 d → blk < w.heap.size → d.size < 4611686018427387904 →
      Calls P f #[.slice (some ⟨blk, 0, none⟩) d.size cap, fv] w fun e w' => e = .returned (.tuple #[]) ∧ ∃ d' n os, PermIn 0 d.size d d' ∧ SortedIn lt 0 d.size d' ∧ w' = sortWorldK enc k w blk 0 n d' os)
    (hnil : ∀ (w : World), Calls P f #[.slice none 0 0, fv] w fun e w' => e = .returned (.tuple #[]) ∧ w' = w)
    (lst : List α) (hls : lst.length < 4611686018427387904) {i : Nat} {v : Value} {e : TypeId} (hi : L[i]? = some (Res.own v e k (lst.map fun x => (enc x).map D.val)))
    (h : ∀ l2 : List α, l2.Perm lst → l2.Pairwise (fun x y => lt y x = false) → R (.tuple #[]) (L.set i (Res.own v e k (l2.map fun x => (enc x).map D.val))) F) :
    ACalls P W0 f #[v, fv] L F R := by
  intro w s
  obtain ⟨hb, hh, m, sx⟩ := id s
  have hl := HK hi
  obtain ⟨h0, hp⟩ : ownP v e k (lst.map fun x => (enc x).map D.val) hh (m i) := sx.res i _ hi
  rcases hp with ⟨rfl, hr, hm0⟩ | ⟨b, cap, cur, rfl, hm, hcap, hmax, hcs, hxx⟩
  · have hl0 : lst = [] := by simpa using hr
    subst hl0
    refine (hnil w).mono fun e' w' ⟨he, hw⟩ => ?_
    subst he hw
    refine ⟨_, _, _, rfl, h [] (List.Perm.refl _) List.Pairwise.nil, ?_⟩
    have : L.set i (Res.own (.slice none 0 0) e k (([] : List α).map fun x => (enc x).map D.val)) = L := by
      have h2 := (List.getElem?_eq_some_iff.1 hi).2
      rw [← h2]; exact List.set_getElem_self _
    rw [this]; exact s
  have hll : (lst.map fun x => (enc x).map D.val).length = lst.length := List.length_map _
  rw [hll] at hcap
  have hbl := sx.own i b _ hl (by rw [hm]; exact Hs _ _)
  have hbw := hbl.2.1
  have hsz : lst.length * k ≤ cur.size := by rw [hcs]; exact Nat.mul_le_mul_right k hcap
  have hget : ∀ q, q < lst.length → ∀ j, j < k → cur[q * k + j]? = some (enc lst[q]!)[j]! := by
    intro q hq j hj
    obtain ⟨x, hx1, hx2⟩ := hxx q ((enc lst[q]).map D.val) j (.val (enc lst[q])[j]!) (by simp [hq]) (by
      have hjl : j < (enc lst[q]).length := by rw [hk]; exact hj
      simp [hjl])
    cases hx2
    rw [hx1]; simp [hq]
  have hH : HoldsK enc k w b 0 lst.toArray := by
    intro t ht
    have ht' : t < lst.length * k := by simpa using ht
    have hdiv : t / k < lst.length := Nat.div_lt_of_lt_mul (by rw [Nat.mul_comm]; exact ht')
    have hmod : t % k < k := Nat.mod_lt _ hk0
    have e1 := hget _ hdiv _ hmod
    have e2 : t / k * k + t % k = t := by have := Nat.div_add_mod t k; rw [Nat.mul_comm] at this; omega
    rw [e2] at e1
    refine ⟨?_, by simp [World.frozen?, hbw]⟩
    rw [get_flatK _ _ _ _ (by simpa using ht')]
    obtain ⟨cl⟩ := cur
    rw [Nat.zero_add, block_cell hbw]
    simpa using e1
  have hcall := hcon b cap lst.toArray w hH (block_lt hbw) (by simpa using hls)
  rw [hll]
  rw [show lst.toArray.size = lst.length by simp] at hcall
  refine Calls.mono hcall fun e' w' he => ?_
  obtain ⟨he, d', n, os, hperm, hsort, hw⟩ := he
  have hs' : d'.size = lst.length := by simpa using hperm.1
  subst he hw
  have hpl : d'.toList.Perm lst := by
    have := hperm.2.2
    have e1 : d'.extract 0 lst.length = d' := by
      apply Array.ext <;> simp [hs']
    have e2 : lst.toArray.extract 0 lst.length = lst.toArray := by
      apply Array.ext <;> simp
    rw [e1, e2] at this
    simpa using this
  have hsorted : d'.toList.Pairwise (fun x y => lt y x = false) := by
    rw [List.pairwise_iff_getElem]
    intro a c ha hc hac
    have hc' : c < d'.size := by simpa using hc
    have := hsort a c (Nat.zero_le _) hac Jb
    rw [getElem!_pos d' c hc', getElem!_pos d' a Jb] at this
    simpa using this
  refine ⟨_, _, _, rfl, h d'.toList hpl hsorted, ?_⟩
  have hheap : (sortWorldK enc k w b 0 n d' os).heap = w.heap.modify b (onCells (putCells id 0 (flatK enc k d'))) ++ os := rfl
  have hlt := block_lt hbw
  have hnew : (sortWorldK enc k w b 0 n d' os).heap[b]? = some (.cells (putCells id 0 (flatK enc k d') cur) e (0, 0)) := by
    rw [hheap, Array.getElem?_append_left (by simpa using hlt), Array.getElem?_modify, if_pos rfl, hbw]; rfl
  have st : Step w (sortWorldK enc k w b 0 n d' os) (m i) := by
    refine ⟨rfl, rfl, rfl, by rw [hheap]; simp, fun q hq hmq => ?_⟩
    have hqb : b ≠ q := fun e' => by subst e'; rw [hm, Hs] at hmq; simp at hmq
    rw [hheap, Array.getElem?_append_left (by simpa using hq), Array.getElem?_modify, if_neg hqb]
  refine ⟨HB hb st (fun b' O hm' => (sx.own i b' O hl hm').1), hh, _, sx.upd hb.size hl st _ (one b (.cells (putCells id 0 (flatK enc k d') cur) e (0, 0))) ⟨?_, .inr ⟨b, cap, putCells id 0 (flatK enc k d') cur, by simp [hs'], rfl, by simp [hs']; exact hcap, hmax, by rw [size_putCells']; exact hcs, ?_⟩⟩ ?_⟩
  · intro q r hr
    simp only [List.getElem?_map, Option.map_eq_some_iff] at hr
    obtain ⟨x, _, rfl⟩ := hr
    simpa using hk x
  · intro q r j dd hr hj
    simp only [List.getElem?_map, Option.map_eq_some_iff] at hr
    obtain ⟨x, hx, rfl⟩ := hr
    simp only [List.getElem?_map, Option.map_eq_some_iff] at hj
    obtain ⟨u, hu, rfl⟩ := hj
    have hql : q < d'.size := by simpa using has_lt' hx
    have hjk : j < k := by have := has_lt' hu; rw [hk] at this; exact this
    have hpl2 : q * k + j < d'.size * k := by
      have := Nat.mul_le_mul_right k (show q + 1 ≤ d'.size from hql)
      rw [Nat.add_mul, Nat.one_mul] at this; omega
    refine ⟨u, ?_, .val _⟩
    rw [get_putCells (by simpa using hpl2) (by rw [hs'] at hpl2; omega), get_flatK _ _ _ _ hpl2]
    have e1 : (q * k + j) / k = q := by rw [Nat.mul_comm, Nat.mul_add_div Jb, Nat.div_eq_of_lt hjk]; rfl
    have e2 : (q * k + j) % k = j := by rw [Nat.mul_comm, Nat.mul_add_mod, Nat.mod_eq_of_lt hjk]
    have hx2 : d'[q]! = x := by
      rw [getElem!_pos d' q hql]; have := (List.getElem?_eq_some_iff.1 hx).2; simpa using this
    rw [e1, e2, hx2]
    have := (List.getElem?_eq_some_iff.1 hu)
    obtain ⟨hju, hju2⟩ := this
    rw [getElem!_pos _ j hju, hju2]
  intro b' O hm'
  obtain ⟨rfl, rfl⟩ := one_some hm'
  exact ⟨.inl (by rw [hm, Hs]; simp), hnew⟩
end
end Go.Sy
namespace Go.Sy
open Go Go.Proofs Go.RowKit
abbrev eTm (x : Tm) : List D := [.val (S x.1), .val (.int .i64 x.2)]
def oddK (l : List Ty) (k : Int) : Prop := kindAt l k = 7 ∨ kindAt l k = 9 ∨ (14 ≤ k ∧ k ≤ 19)
theorem zips_len {t : Ty} (h : t.words.length = t.kids.length) : (zips t).length = t.words.length := by unfold zips; rw [List.length_zip]; omega
theorem zips_get {t : Ty} {q : Nat} (hq : q < t.words.length) (hk : q < t.kids.length) (hz : q < (zips t).length) : (zips t)[q] = (t.words[q], t.kids[q]) := by simp [zips]
theorem decl_yes {zs : List Tm} {q : Nat} (hq : q < zs.length) (h : ¬ markP zs[q].1) : declsR (zs.take q) ++ [zs[q]] = declsR (zs.take (q + 1)) := by
  rw [List.take_succ_eq_append_getElem hq, declsR_snoc, if_neg h]
theorem decl_no {zs : List Tm} {q : Nat} (hq : q < zs.length) (h : markP zs[q].1) : declsR (zs.take q) = declsR (zs.take (q + 1)) := by
  rw [List.take_succ_eq_append_getElem hq, declsR_snoc, if_pos h]
theorem term_no {zs : List Tm} {q : Nat} (hq : q < zs.length) (h : ¬ markP zs[q].1) : termsA (zs.take q) = termsA (zs.take (q + 1)) := by
  rw [List.take_succ_eq_append_getElem hq, termsA_snoc, if_neg h]
theorem term_yes {zs : List Tm} {q : Nat} (hq : q < zs.length) (h : markP zs[q].1) : addTm (termsA (zs.take q)) zs[q] = termsA (zs.take (q + 1)) := by
  rw [List.take_succ_eq_append_getElem hq, termsA_snoc, if_pos h]
theorem addTm_none {a : List Tm} {z : Tm} (h : a.findIdx? (·.2 == z.2) = none) : a ++ [z] = addTm a z := by unfold addTm; rw [h]
theorem addTm_set {a : List Tm} {z : Tm} {k : Nat} (h : a.findIdx? (·.2 == z.2) = some k) (hz : z.1 = [126]) : a.set k z = addTm a z := by unfold addTm; rw [h]; simp only; rw [if_pos hz]
theorem addTm_stay {a : List Tm} {z : Tm} {k : Nat} (h : a.findIdx? (·.2 == z.2) = some k) (hz : z.1 ≠ [126]) : a = addTm a z := by unfold addTm; rw [h]; simp only; rw [if_neg hz]
theorem declsR_len (zs : List Tm) : (declsR zs).length ≤ zs.length := by unfold declsR; exact List.length_filter_le ..
theorem termsA_len (zs : List Tm) : (termsA zs).length ≤ zs.length := by
  refine snocInd (P := fun zs => (termsA zs).length ≤ zs.length) (by simp [termsA]) ?_ zs
  intro zs z ih
  rw [termsA_snoc, List.length_append]
  split
  · unfold addTm
    split
    · rw [List.length_append]; simp only [List.length_cons, List.length_nil]; omega
    split
    · rw [List.length_set]; simp only [List.length_cons, List.length_nil]; omega
    simp only [List.length_cons, List.length_nil]; omega
  simp only [List.length_cons, List.length_nil]; omega
theorem odd_not {l : List Ty} {t : Ty} (h : ∀ z ∈ zips t, markP z.1 → ¬ oddK l z.2) : ¬ oddP l t := fun ⟨z, hz, hm, ho⟩ => h z hz hm ho
theorem odd_step {l : List Ty} {zs : List Tm} {q : Nat} (hq : q < zs.length) (h : ∀ z ∈ zs.take q, markP z.1 → ¬ oddK l z.2) (h2 : markP zs[q].1 → ¬ oddK l zs[q].2) : ∀ z ∈ zs.take (q + 1), markP z.1 → ¬ oddK l z.2 := by
  intro z hz
  rw [List.take_succ_eq_append_getElem hq] at hz
  rcases List.mem_append.1 hz with k | k
  · exact h z k
  have : z = zs[q] := by simpa using k
  rw [this]; exact h2
abbrev Fm := List UInt8 × Fin 1048576
def encF (x : Fm) : List Value := [S x.1, .int .i64 ((x.2.val : Nat) : Int)]
def toF (x : Tm) : Fm := (x.1, ⟨x.2.toNat % 1048576, Nat.mod_lt _ (by decide)⟩)
def ofF (x : Fm) : Tm := (x.1, ((x.2.val : Nat) : Int))
def cfF (x y : Fm) : Int := ((x.2.val : Nat) : Int) - ((y.2.val : Nat) : Int)
theorem ltF (x y : Fm) : ltOf cfF x y = decide (x.2.val < y.2.val) := by
  unfold ltOf cfF
  rw [decide_eq_decide]; omega
theorem swoF : Go.Sort.SWO (ltOf cfF) where
  irrefl x := by rw [ltF]; simp
  trans x y z h1 h2 := by rw [ltF] at *; simp at *; omega
  ntrans x y z h1 h2 := by rw [ltF] at *; simp at *; omega
theorem of_to {x : Tm} (h : 0 ≤ x.2 ∧ x.2 < 1048576) : ofF (toF x) = x := by
  refine Prod.ext HZ ?_
  show (((x.2.toNat % 1048576 : Nat)) : Int) = x.2
  omega
theorem rowF (x : Fm) : (encF x).map D.val = eTm (ofF x) := rfl
theorem rowsF {a : List Tm} (h : ∀ x ∈ a, 0 ≤ x.2 ∧ x.2 < 1048576) : (a.map toF).map (fun x => (encF x).map D.val) = a.map eTm := by
  rw [List.map_map]
  refine List.map_congr_left fun x hx => ?_
  show (encF (toF x)).map D.val = _
  rw [rowF, of_to (h x hx)]
theorem sortedF {a : List Tm} (h : ∀ x ∈ a, 0 ≤ x.2 ∧ x.2 < 1048576) {l2 : List Fm} (hp : l2.Perm (a.map toF)) (hs : l2.Pairwise fun x y => ltOf cfF y x = false) : (l2.map ofF).Perm a ∧ (l2.map ofF).Pairwise fun x y => x.2 ≤ y.2 := by
  constructor
  · have := hp.map ofF
    rw [List.map_map] at this
    have e : a.map (ofF ∘ toF) = a := by
      conv => rhs; rw [← List.map_id a]
      exact List.map_congr_left fun x hx => of_to (h x hx)
    rwa [e] at this
  rw [List.pairwise_map]
  refine hs.imp fun {x y} hxy => ?_
  rw [ltF] at hxy
  have := of_decide_eq_false hxy
  show ((x.2.val : Nat) : Int) ≤ ((y.2.val : Nat) : Int)
  omega
open Go.Sort in
theorem closeF (x y : Fm) (W : World) : Calls Tryz.prog 213 #[.agg (encF x).toArray, .agg (encF y).toArray] W fun e w' => e = .returned (.int .i64 (cfF x y)) ∧ ∃ q os', w' = Go.Sort.grow (W.drewN q) os' := by
  unfold encF cfF
  have hx := x.2.isLt
  have hy := y.2.isLt
  generalize x.2.val = i at *
  generalize y.2.val = j at *
  have hw : IntKind.i64.wrap ((i : Int) - (j : Int)) = (i : Int) - (j : Int) := wrap_i64 Jb Jb
  go_enter Tryz.func213, Tryz.ntmps213
  go_wp2
  go_ret
  exact ⟨rfl, 0, _, by rw [alloc_eq_grow, alloc_eq_grow, grow_grow]; rfl⟩
end Go.Sy
namespace Go.Sy
open Go Go.Proofs Go.RowKit
theorem eS_one {x : List UInt8} {d : D} (hd : d ∈ eS x) {v : Value} (hv : d = .val v) : oneC v = true := by
  subst hv; simp at hd; subst hd; rfl
theorem eI_one {x : Int} {d : D} (hd : d ∈ eI x) {v : Value} (hv : d = .val v) : oneC v = true := by
  subst hv; simp at hd; subst hd; rfl
theorem eTm_get {a : List Tm} {k : Nat} (hk : k < a.length) : (a.map eTm)[k]? = some ([S a[k].1, .int .i64 a[k].2].map D.val) := by
  rw [List.getElem?_map, List.getElem?_eq_getElem hk]; rfl
theorem eTm_set {a : List Tm} {k : Nat} (hk : k < a.length) {z : Tm} (hz : a[k].2 = z.2) : (a.map eTm).set k (([S a[k].1, .int .i64 a[k].2].map D.val).set 0 (.val (S z.1))) = (a.set k z).map eTm := by
  rw [List.map_set]; congr 1; rw [hz]; rfl
theorem idx_first {a : List Tm} {k : Int} {q : Nat} (hq : q < a.length) (h : a[q].2 = k) (hn : ∀ j (hj : j < a.length), j < q → a[j].2 ≠ k) : a.findIdx? (·.2 == k) = some q := by
  rw [List.findIdx?_eq_some_iff_getElem]
  exact ⟨hq, by simp [h], fun j hj => by have := hn j Jb hj; simp [this]⟩
theorem idx_no {a : List Tm} {k : Int} (hn : ∀ j (hj : j < a.length), a[j].2 ≠ k) : a.findIdx? (·.2 == k) = none := by
  rw [List.findIdx?_eq_none_iff]
  intro x hx
  obtain ⟨j, hj, rfl⟩ := List.getElem_of_mem hx
  simp [hn j hj]
attribute [local irreducible] AC AT AO AK AH ACalls Sub Res.cells Res.obj Res.nix Res.own Res.map Exit.then Exit.inBlock bodyPost Code.wp Code.wpIn WL Next Post Kont
section
variable {W0 : World} {L : List Res} {F : List Fact} {R : Value → List Res → List Fact → Prop}
set_option maxRecDepth 100000
set_option maxHeartbeats 8000000
theorem sortTm_c (a : List Tm) (ha : ∀ x ∈ a, 0 ≤ x.2 ∧ x.2 < 1048576) (hl : a.length ≤ 1000) {i : Nat} {v : Value} {e : TypeId} (hi : L[i]? = some (Res.own v e 2 (a.map eTm)))
    (h : ∀ b : List Tm, b.Perm a → b.Pairwise (fun x y => x.2 ≤ y.2) → R (.tuple #[]) (L.set i (Res.own v e 2 (b.map eTm))) F) : ACalls Tryz.prog W0 212 #[v, .func (.func 213) #[] #[]] L F R := by
  have eg : ∀ args w, (callFunc 213 args).run Tryz.prog w = .ok (.enter 213 args) w := enters_of Tryz.func213 Ja rfl
  refine ACalls.sortK (k := 2) encF (by decide) (fun _ => rfl) (ltOf cfF) (fun blk cap d w hH hblk hsz => ?_) (fun w => ?_) (a.map toF) (by rw [List.length_map]; omega) (by rw [rowsF ha]; exact hi) (fun l2 hp hs => ?_)
  · exact AnyQ.slices_SortFunc Tryz.sortTerm 2 Tryz.isAgg266 Tryz.sizeOf266 encF (fun _ => rfl) (fun x v hv => by unfold encF at hv; simp at hv; rcases hv with rfl | rfl <;> rfl) cfF swoF 213 #[] blk 0 cap d w eg (fun m os dk _ x y => by have := closeF x y (sortWorldK encF 2 w blk 0 m dk os); simpa using this) hH hblk hsz
  · exact AnyF.slices_SortFunc_none Tryz.sortTerm none 0 _ w
  obtain ⟨h1, h2⟩ := sortedF ha hp hs
  have e1 : l2.map (fun x => (encF x).map D.val) = (l2.map ofF).map eTm := by rw [List.map_map]; rfl
  rw [e1]
  exact h _ h1 h2
theorem mark_c (s : List UInt8) (hT : markP s → R (.bool true) L F) (hF : ¬ markP s → R (.bool false) L F) : ACalls Tryz.prog W0 209 #[S s] L F R := by
  refine Gg Tryz.func209 HZ Tryz.ntmps209 HZ ?_
  refine qs 8 ?_
  refine Ga (Hi HZ HZ HZ (fun c4 => ?_) (fun c4 => ?_))
  ·refine qs 8 ?_
   first | exact Gb Tryz.results209 rfl (Gf _ _) (hT (Or.inl c4)) | exact Gb Tryz.results209 rfl (Gf _ _) (hT (Or.inr c7)) | exact Gb Tryz.results209 rfl (Gf _ _) (hF (fun e => e.elim c4 c7))
  refine qs 2 ?_
  refine Gc HZ HZ (Hi HZ HZ HZ (fun c7 => ?_) (fun c7 => ?_))
  ·refine qs 5 ?_
   first | exact Gb Tryz.results209 rfl (Gf _ _) (hT (Or.inl c4)) | exact Gb Tryz.results209 rfl (Gf _ _) (hT (Or.inr c7)) | exact Gb Tryz.results209 rfl (Gf _ _) (hF (fun e => e.elim c4 c7))
  refine qs 5 ?_
  first | exact Gb Tryz.results209 rfl (Gf _ _) (hT (Or.inl c4)) | exact Gb Tryz.results209 rfl (Gf _ _) (hT (Or.inr c7)) | exact Gb Tryz.results209 rfl (Gf _ _) (hF (fun e => e.elim c4 c7))
theorem term1_c (x : Tm) (kid : Int) {b j : Nat} {e : TypeId} (hj : L[j]? = some (Res.cells b #[.int .i64 kid] e)) (hT : x.2 = kid → R (.bool true) L F) (hF : x.2 ≠ kid → R (.bool false) L F) : ACalls Tryz.prog W0 211 #[.agg #[S x.1, .int .i64 x.2], .pointer (some ⟨b, 0, none⟩)] L F R := by
  refine Gg Tryz.func211 HZ Tryz.ntmps211 HZ ?_
  refine qs 2 ?_
  refine Ga (GL HZ HZ (fun b2 => ?_))
  refine qs 7 ?_
  refine Ga (Gy (cs := [.int .i64 kid]) HZ HZ ?_ (i := j + 1) (hi := hj) (hv := HZ))
  refine Ga (Gr HZ HZ HZ (fun c7 => ?_) (fun c7 => ?_))
  ·refine qs 4 ?_
   first | exact Gb (L' := L) (F' := F) Tryz.results211 rfl Gv (hT c7) | exact Gb (L' := L) (F' := F) Tryz.results211 rfl Gv (hF c7)
  refine qs 4 ?_
  first | exact Gb (L' := L) (F' := F) Tryz.results211 rfl Gv (hT c7) | exact Gb (L' := L) (F' := F) Tryz.results211 rfl Gv (hF c7)
theorem idxTm_c (a : List Tm) (hl : a.length ≤ 1000) (kid : Int) {b i j : Nat} {e : TypeId} {a0 : Option Addr} {k0 c0 : Nat} (hi : L[i]? = some (Res.own (.slice a0 k0 c0) 266 2 (a.map eTm))) (hj : L[j]? = some (Res.cells b #[.int .i64 kid] e))
    (hF : a.findIdx? (·.2 == kid) = none → R (.int .i64 (-1)) L F) (hT : ∀ k : Nat, a.findIdx? (·.2 == kid) = some k → R (.int .i64 (k : Int)) L F) : ACalls Tryz.prog W0 210 #[.slice a0 k0 c0, .func (.func 211) #[] #[.pointer (some ⟨b, 0, none⟩)]] L F R := by
  refine Gg Tryz.func210 HZ Tryz.ntmps210 HZ ?_
  refine qs 9 ?_
  refine Ga (AO.lenO (i := i) HZ HZ hi (fun hk7 => ?_))
  rw [List.length_map]
  refine qs 4 ?_
  refine AC.loopC (fun (q : Nat) => q ≤ a.length ∧ ∀ j (hj : j < a.length), j < q → a[j].2 ≠ kid) (fun q => [(0, .slice a0 k0 c0), (1, .func (.func 211) #[] #[.pointer (some ⟨b, 0, none⟩)]), (7, .int .i64 a.length), (8, .int .i64 (q : Int))]) (fun q => a.length - q) 0 ⟨by omega, by omega⟩ srA ?_
  rintro q ⟨hq, hok⟩
  refine qs 2 ?_
  refine Ga (Gw HZ HZ HZ (fun c9 => ?_) (fun c9 => ?_))
  ·refine qs 19 ?_
   have hql : q < a.length := by omega
   refine Ga (Hb (i := i) (q := q) HZ HZ HZ HZ hi (by rw [List.length_map]; exact hql) (fun bo ho => ?_))
   subst ho
   refine Ga (AO.loadOA (i := i) (q := q) (vs := [S a[q].1, .int .i64 a[q].2]) HZ HZ HZ hi (eTm_get hql) HZ ?_)
   refine Ga (AO.callC (cs := [.pointer (some ⟨b, 0, none⟩)]) HZ HZ HZ (term1_c a[q] kid hj (fun c16 => ?_) (fun c16 => ?_)))
   ·refine qs 15 ?_
    first | exact Gb (L' := L) (F' := F) Tryz.results210 rfl subF (hT q (idx_first hql c16 hok)) | exact Gb (L' := L) (F' := F) Tryz.results210 rfl subF (hF (idx_no (fun j hj => hok j hj Jb)))
   refine qs 10 ?_
   refine Gk (q + 1) ⟨by omega, fun j hj hjq => ?_⟩ Jb srA subF
   rcases Nat.lt_succ_iff_lt_or_eq.1 hjq with k9 | rfl
   · exact hok j hj k9
   exact c16
  refine qs 15 ?_
  first | exact Gb (L' := L) (F' := F) Tryz.results210 rfl subF (hT q (idx_first hql c16 hok)) | exact Gb (L' := L) (F' := F) Tryz.results210 rfl subF (hF (idx_no (fun j hj => hok j hj Jb)))
end
end Go.Sy
namespace Go.Sy
abbrev Hq := @eI_one
abbrev HI := @odd_step
abbrev HR := @decl_yes
end Go.Sy
namespace Go.Sy
open Go Go.Proofs Go.RowKit
theorem fst_snoc {A : List Tm} {z : Tm} : (A.map (·.1)) ++ [z.1] = (A ++ [z]).map (·.1) := by simp
theorem snd_snoc {A : List Tm} {z : Tm} : (A.map (·.2)) ++ [z.2] = (A ++ [z]).map (·.2) := by simp
theorem take_snoc {α : Type} {A B : List α} {u : Nat} (hu : u < B.length) : (A ++ B.take u) ++ [B[u]] = A ++ B.take (u + 1) := by
  rw [List.append_assoc, ← List.take_succ_eq_append_getElem hu]
theorem termsA_in {B : Int} {zs : List Tm} (h : ∀ z ∈ zs, 0 ≤ z.2 ∧ z.2 < B) : ∀ x ∈ termsA zs, 0 ≤ x.2 ∧ x.2 < B := by
  intro x hx
  obtain ⟨h1, h2⟩ := ((termsA_is zs).2 x).1 hx
  obtain ⟨z, hz, _, e⟩ := markOf_kid zs x.2 (by rw [← h1]; exact h2)
  rw [← e]; exact h z hz
theorem zips_in {t : Ty} {B : Int} (h : ∀ k ∈ t.kids, 0 ≤ k ∧ k < B) : ∀ z ∈ zips t, 0 ≤ z.2 ∧ z.2 < B := fun _ hz => h _ (List.of_mem_zip hz).2
attribute [local irreducible] AC AT AO AK AH ACalls Sub Res.cells Res.obj Res.nix Res.own Res.map Exit.then Exit.inBlock bodyPost Code.wp Code.wpIn WL Next Post Kont
section
variable {W0 : World} {L : List Res} {F : List Fact} {R : Value → List Res → List Fact → Prop}
set_option maxRecDepth 100000
set_option maxHeartbeats 8000000
theorem terms_c (l : List Ty) (h400 : l.length ≤ 400) (t : Ty) (hkl : t.kids.length ≤ 20) (hk : ∀ k ∈ t.kids, 0 ≤ k ∧ k < l.length) (hwk : t.words.length = t.kids.length) (hname : t.name = []) {a a1 a2 : Option Addr} {k c k1 c1 k2 c2 : Nat} (mL : fL l a k c ∈ F) (m1 : fW t a1 k1 c1 ∈ F) (m2 : fK t a2 k2 c2 ∈ F)
    (hT : oddP l t → R (.tuple #[vTy (basicT []) none 0 0 none 0 0, .bool false]) L F)
    (hF : ¬ oddP l t → ∀ a1 k1 c1 a2 k2 c2, R (.tuple #[vTy (termsT l.length t) a1 k1 c1 a2 k2 c2, .bool true]) L (fW (termsT l.length t) a1 k1 c1 :: fK (termsT l.length t) a2 k2 c2 :: F)) : ACalls Tryz.prog W0 176 #[.slice a k c, vTy t a1 k1 c1 a2 k2 c2] L F R := by
  have hml : 1000000 ≤ maxLen := by decide
  have hzl := zips_len hwk
  have hzin := zips_in hk
  refine Gg Tryz.func176 HZ Tryz.ntmps176 HZ ?_
  refine qs 2 ?_
  refine Ga (GL HZ HZ (fun b3 => (Ga (Gj HZ (fun b4 => ?_)))))
  refine qs 6 ?_
  refine Ga (Gj HZ (fun b6 => ?_))
  refine qs 19 ?_
  refine Ga (AO.field HZ HZ ?_)
  refine GH ((GZ (e := 9) (sz := 1)).trans ((GZ (e := 3) (sz := 1)).trans (GZ (e := 266) (sz := 2)))) ?_
  refine qs 1 ?_
  refine Ga (Gt HZ HZ (fun hl20 => ?_) (hm := by repeat (first | exact mem0 | assumption | refine memS ?_)))
  refine qs 4 ?_
  refine GB (fun (x : Nat × (Option Addr × Nat × Nat) × (Option Addr × Nat × Nat) × (Option Addr × Nat × Nat)) => x.1 ≤ t.words.length ∧ ∀ z ∈ (zips t).take x.1, markP z.1 → ¬ oddK l z.2) (fun x => [(0, .slice a k c), (3, .pointer (some ⟨b3, 0, none⟩)), (4, .pointer (some ⟨b4, 0, none⟩)), (6, .pointer (some ⟨b6, 0, none⟩)), (7, .slice x.2.2.2.1 x.2.2.2.2.1 x.2.2.2.2.2), (19, .slice a1 k1 c1), (20, .int .i64 t.words.length), (21, .int .i64 (x.1 : Int))]) (fun x => Res.own (.slice x.2.2.2.1 x.2.2.2.2.1 x.2.2.2.2.2) 266 2 ((termsA ((zips t).take x.1)).map eTm) :: Res.own (.slice x.2.2.1.1 x.2.2.1.2.1 x.2.2.1.2.2) 3 1 (((declsR ((zips t).take x.1)).map (·.2)).map eI) :: Res.own (.slice x.2.1.1 x.2.1.2.1 x.2.1.2.2) 9 1 (((declsR ((zips t).take x.1)).map (·.1)).map eS) :: Res.cells b6 #[.int .i64 t.kind, S t.name, .int .i64 t.n, .slice x.2.1.1 x.2.1.2.1 x.2.1.2.2, .slice x.2.2.1.1 x.2.2.1.2.1 x.2.2.1.2.2] 29 :: _) (fun _ => F) (fun x => t.words.length - x.1) (0, (none, 0, 0), (none, 0, 0), (none, 0, 0)) ⟨Nat.zero_le _, fun z hz => by simp at hz⟩ srA (Gf _ _) ?_
  rintro ⟨q, ⟨aW, kW, cW⟩, ⟨aK, kK, cK⟩, ⟨aT, kT, cT⟩⟩ ⟨hq, hno⟩
  simp only at hq hno ⊢
  refine qs 2 ?_
  refine Ga (Gw HZ HZ HZ (fun c22 => ?_) (fun c22 => ?_))
  ·refine qs 11 ?_
   have hqw : q < t.words.length := by omega
   have hqk : q < t.kids.length := by omega
   have hqz : q < (zips t).length := by omega
   have hz := zips_get hqw hqk hqz
   have hb := hk _ (List.getElem_mem hqk)
   have hdl := declsR_len ((zips t).take q)
   have htl := termsA_len ((zips t).take q)
   have hzt : ((zips t).take q).length = q := by rw [List.length_take]; omega
   refine Ga (Gd HZ HZ HZ HZ (show fW t _ _ _ ∈ _ from memA) hqw (fun _ _ => ?_))
   refine Ga (Gs HZ HZ ?_)
   intros
   refine qs 9 ?_
   refine Ga (Gd HZ HZ HZ HZ (show fK t _ _ _ ∈ _ from memA) hqk (fun _ _ => ?_))
   refine Ga (Gs HZ HZ ?_)
   intros
   refine Ga (Gj HZ (fun b10 => ?_))
   refine Ga (GM HZ HZ HZ ?_)
   refine GH (Hk (L' := Res.cells b10 #[.int .i64 t.kids[q]] 3 :: _) HZ) ?_
   refine qs 6 ?_
   refine Ga (Ge HZ HZ (mark_c t.words[q] (fun c32 => ?_) (fun c32 => ?_)))
   ·refine qs 11 ?_
    have hkn : t.kids[q].toNat < l.length := by omega
    have hkt : kindAt l t.kids[q] = l[t.kids[q].toNat].kind := kind_get Jb hkn
    have hym : markP (zips t)[q].1 := by rw [hz]; exact c32
    refine Ga (Gd (k := t.kids[q].toNat) HZ HZ HZ Jb (enc := eTy) (lst := l) memA hkn (fun _ _ => ?_))
    refine Ga (Ha HZ HZ (fun _ => ?_))
    refine Ga (Gs HZ HZ ?_)
    intros
    refine qs 6 ?_
    refine Ga (Gr HZ HZ HZ (fun c52 => ?_) (fun c52 => ?_))
    ·refine qs 29 ?_
     refine Gn (rs := [.cell 4 _, .tmp 5]) (L' := L) (F' := F) Tryz.results176 (.agg (j := 5) HZ HZ HZ (.tmp HZ .nil)) subA (hT ⟨(zips t)[q], List.getElem_mem hqz, hym, ?_⟩)
     rw [hz]; simp only; rw [hkt]; omega
    refine qs 2 ?_
    refine Gc HZ HZ (Gr HZ HZ HZ (fun c55 => ?_) (fun c55 => ?_))
    ·refine qs 26 ?_
     refine Gn (rs := [.cell 4 _, .tmp 5]) (L' := L) (F' := F) Tryz.results176 (.agg (j := 5) HZ HZ HZ (.tmp HZ .nil)) subA (hT ⟨(zips t)[q], List.getElem_mem hqz, hym, ?_⟩)
     rw [hz]; simp only; rw [hkt]; omega
    refine qs 3 ?_
    refine Gc HZ HZ (GY HZ HZ HZ (fun c59 => ?_) (fun c59 => ?_))
    ·refine qs 2 ?_
     refine Gc HZ HZ (HG HZ HZ HZ (fun c62 => ?_) (fun c62 => ?_))
     ·refine qs 19 ?_
      refine Gn (rs := [.cell 4 _, .tmp 5]) (L' := L) (F' := F) Tryz.results176 (.agg (j := 5) HZ HZ HZ (.tmp HZ .nil)) subA (hT ⟨(zips t)[q], List.getElem_mem hqz, hym, ?_⟩)
      rw [hz]; simp only; rw [hkt]; omega
     refine qs 10 ?_
     refine Ga (HO HZ HZ ?_)
     have hodd : ¬ oddK l (zips t)[q].2 := by
      rw [hz]; simp only; unfold oddK; rw [hkt]; omega
     refine Ga (Ge HZ HZ (idxTm_c (termsA ((zips t).take q)) Jb t.kids[q] (i := 1) (j := 0) HZ HZ (fun c68 => ?_) (fun j68 c68 => ?_)))
     ·refine qs 6 ?_
      refine Ga (Gw HZ HZ HZ (fun _ => ?_) (fun c70 => absurd c70 (by decide)))
      refine qs 8 ?_
      refine Ga (Gl HZ HZ HZ HZ HZ (fun b75 => ?_))
      refine Ga (GJ (i := 1) (enc := eTm) (lst := termsA ((zips t).take q)) [(t.words[q], t.kids[q])] HZ HZ HZ HZ (.val (.val .nil)) HZ HZ (fun _ => rfl) Jb Jb (fun a76 k76 z76 => ?_))
      refine qs 8 ?_
      have e1 : termsA ((zips t).take q) ++ [(t.words[q], t.kids[q])] = termsA ((zips t).take (q + 1)) := by rw [← term_yes hqz hym, hz]; exact addTm_none c68
      rw [e1, decl_no hqz hym]
      exact Gk (q + 1, (aW, kW, cW), (aK, kK, cK), (a76, k76, z76)) ⟨by simp only; omega, HI hqz hno (fun _ => hodd)⟩ (by simp only; omega) srA (Sub.drop.trans subF)
     refine qs 6 ?_
     refine Ga (Gw HZ HZ HZ (fun c70 => absurd c70 Jb) (fun _ => ?_))
     refine qs 6 ?_
     refine Ga (Hi HZ HZ HZ (fun c78 => ?_) (fun c78 => ?_))
     ·refine qs 7 ?_
      have hj68 : j68 < (termsA ((zips t).take q)).length := (idx_some c68).1
      refine Ga (Hb (i := 1) (q := j68) HZ HZ HZ HZ HZ (by rw [List.length_map]; exact hj68) (fun bo ho => ?_))
      subst ho
      refine qs 1 ?_
      refine Ga (AO.storeOR (i := 1) (q := j68) (j := 0) HZ HZ HZ HZ HZ (eTm_get hj68) (by simp) ?_)
      have e2 : ((termsA ((zips t).take q)).map eTm).set j68 (([S (termsA ((zips t).take q))[j68].1, .int .i64 (termsA ((zips t).take q))[j68].2].map D.val).set 0 (.val (S t.words[q]))) = (termsA ((zips t).take (q + 1))).map eTm := by
       rw [← term_yes hqz hym, hz, ← addTm_set (z := (t.words[q], t.kids[q])) c68 c78]
       exact eTm_set hj68 (z := (t.words[q], t.kids[q])) (idx_some c68).2
      show AT _ _ _ _ (_ :: Res.own (.slice (some ⟨bo, 0, none⟩) kT cT) 266 2 (((termsA ((zips t).take q)).map eTm).set j68 (([S (termsA ((zips t).take q))[j68].1, .int .i64 (termsA ((zips t).take q))[j68].2].map D.val).set 0 (.val (S t.words[q])))) :: _) _
      rw [e2]
      refine qs 7 ?_
      rw [decl_no hqz hym]
      exact Gk (q + 1, (aW, kW, cW), (aK, kK, cK), (some ⟨bo, 0, none⟩, kT, cT)) ⟨by simp only; omega, HI hqz hno (fun _ => hodd)⟩ (by simp only; omega) srA (Sub.drop.trans subF)
     refine qs 10 ?_
     have e3 : termsA ((zips t).take q) = termsA ((zips t).take (q + 1)) := by rw [← term_yes hqz hym, hz]; exact addTm_stay c68 c78
     rw [decl_no hqz hym, e3]
     exact Gk (q + 1, (aW, kW, cW), (aK, kK, cK), (aT, kT, cT)) ⟨by simp only; omega, HI hqz hno (fun _ => hodd)⟩ (by simp only; omega) srA (Sub.drop.trans subF)
    refine qs 13 ?_
    refine Ga (HO HZ HZ ?_)
    have hodd : ¬ oddK l (zips t)[q].2 := by
     rw [hz]; simp only; unfold oddK; rw [hkt]; omega
    refine Ga (Ge HZ HZ (idxTm_c (termsA ((zips t).take q)) Jb t.kids[q] (i := 1) (j := 0) HZ HZ (fun c68 => ?_) (fun j68 c68 => ?_)))
    ·refine qs 6 ?_
     refine Ga (Gw HZ HZ HZ (fun _ => ?_) (fun c70 => absurd c70 (by decide)))
     refine qs 8 ?_
     refine Ga (Gl HZ HZ HZ HZ HZ (fun b75 => ?_))
     refine Ga (GJ (i := 1) (enc := eTm) (lst := termsA ((zips t).take q)) [(t.words[q], t.kids[q])] HZ HZ HZ HZ (.val (.val .nil)) HZ HZ (fun _ => rfl) Jb Jb (fun a76 k76 z76 => ?_))
     refine qs 8 ?_
     have e1 : termsA ((zips t).take q) ++ [(t.words[q], t.kids[q])] = termsA ((zips t).take (q + 1)) := by rw [← term_yes hqz hym, hz]; exact addTm_none c68
     rw [e1, decl_no hqz hym]
     exact Gk (q + 1, (aW, kW, cW), (aK, kK, cK), (a76, k76, z76)) ⟨by simp only; omega, HI hqz hno (fun _ => hodd)⟩ (by simp only; omega) srA (Sub.drop.trans subF)
    refine qs 6 ?_
    refine Ga (Gw HZ HZ HZ (fun c70 => absurd c70 Jb) (fun _ => ?_))
    refine qs 6 ?_
    refine Ga (Hi HZ HZ HZ (fun c78 => ?_) (fun c78 => ?_))
    ·refine qs 7 ?_
     have hj68 : j68 < (termsA ((zips t).take q)).length := (idx_some c68).1
     refine Ga (Hb (i := 1) (q := j68) HZ HZ HZ HZ HZ (by rw [List.length_map]; exact hj68) (fun bo ho => ?_))
     subst ho
     refine qs 1 ?_
     refine Ga (AO.storeOR (i := 1) (q := j68) (j := 0) HZ HZ HZ HZ HZ (eTm_get hj68) (by simp) ?_)
     have e2 : ((termsA ((zips t).take q)).map eTm).set j68 (([S (termsA ((zips t).take q))[j68].1, .int .i64 (termsA ((zips t).take q))[j68].2].map D.val).set 0 (.val (S t.words[q]))) = (termsA ((zips t).take (q + 1))).map eTm := by
      rw [← term_yes hqz hym, hz, ← addTm_set (z := (t.words[q], t.kids[q])) c68 c78]
      exact eTm_set hj68 (z := (t.words[q], t.kids[q])) (idx_some c68).2
     show AT _ _ _ _ (_ :: Res.own (.slice (some ⟨bo, 0, none⟩) kT cT) 266 2 (((termsA ((zips t).take q)).map eTm).set j68 (([S (termsA ((zips t).take q))[j68].1, .int .i64 (termsA ((zips t).take q))[j68].2].map D.val).set 0 (.val (S t.words[q])))) :: _) _
     rw [e2]
     refine qs 7 ?_
     rw [decl_no hqz hym]
     exact Gk (q + 1, (aW, kW, cW), (aK, kK, cK), (some ⟨bo, 0, none⟩, kT, cT)) ⟨by simp only; omega, HI hqz hno (fun _ => hodd)⟩ (by simp only; omega) srA (Sub.drop.trans subF)
    refine qs 10 ?_
    have e3 : termsA ((zips t).take q) = termsA ((zips t).take (q + 1)) := by rw [← term_yes hqz hym, hz]; exact addTm_stay c68 c78
    rw [decl_no hqz hym, e3]
    exact Gk (q + 1, (aW, kW, cW), (aK, kK, cK), (aT, kT, cT)) ⟨by simp only; omega, HI hqz hno (fun _ => hodd)⟩ (by simp only; omega) srA (Sub.drop.trans subF)
   refine qs 5 ?_
   refine GP (fun i => Nat.beq i 11 || Nat.beq i 13) [(b6, _, _), (b10, _, _)] bxA HZ (fun hx hX => ?_)
   refine qt [0, 1, 2, 5, 6] ?_
   refine HE (i := 3) (j := 7) Ja HZ HZ HZ HZ (fun _ => ?_) (fun _ => ?_)
   ·refine Gl HZ HZ HZ HZ HZ (fun b37 => ?_)
    refine GH ((Hg (i := 0) (k := 1) (enc := eS) (sz := 1) [t.words[q]] HZ (.val .nil) (fun _ => rfl) HZ Jb).trans Gv) ?_
    refine Gi bxA memB ?_
    refine HE (i := 4) (j := 7) Ja HZ HZ HZ HZ (fun _ => ?_) (fun _ => ?_)
    ·refine GU (i := 3) (enc := eS) (lst := (declsR ((zips t).take q)).map (·.1)) (lst2 := [t.words[q]]) HZ HZ HZ HZ memA (fun x d hd v hv => eS_one hd hv) (fun _ => rfl) (by simp only [List.length_map, List.length_cons, List.length_nil]; omega) (by simp only [List.length_map, List.length_cons, List.length_nil]; omega) (fun a38 k38 z38 => ?_)
     simp only [List.set_cons_zero, List.set_cons_succ]
     refine Gi bxA memB ?_
     refine qt [10] ?_
     refine Gm (i := 7) Ja HZ HZ (fun _ => ?_)
     refine Gy (cs := [.int .i64 t.kids[q]]) HZ HZ ?_
     refine Gi bxA memB ?_
     refine Gm (i := 8) Ja HZ HZ (fun _ => ?_)
     refine Gl HZ HZ HZ HZ HZ (fun b42 => ?_)
     refine GH ((Hg (i := 0) (k := 1) (enc := eI) (sz := 1) [t.kids[q]] HZ (.val .nil) (fun _ => rfl) HZ Jb).trans Gv) ?_
     refine Gi bxA memB ?_
     refine Gm (i := 9) Ja HZ HZ (fun _ => ?_)
     refine GU (i := 2) (enc := eI) (lst := (declsR ((zips t).take q)).map (·.2)) (lst2 := [t.kids[q]]) HZ HZ HZ HZ memA (fun x d hd v hv => Hq hd hv) (fun _ => rfl) (by simp only [List.length_map, List.length_cons, List.length_nil]; omega) (by simp only [List.length_map, List.length_cons, List.length_nil]; omega) (fun a43 k43 z43 => ?_)
     simp only [List.set_cons_zero, List.set_cons_succ]
     refine Gi bxA memB ?_
     refine Gm (i := 11) Ja HZ HZ (fun _ => ?_)
     refine GM HZ HZ HZ ?_
     refine GC HZ ?_
     refine qt [12] ?_
     refine Gm (i := 13) Ja HZ HZ (fun _ => ?_)
     refine GM HZ HZ HZ ?_
     refine GC HZ ?_
     refine Gq Ja ?_
     refine qs 9 ?_
     have hnm : ¬ markP (zips t)[q].1 := by rw [hz]; exact c32
     have e1 : (declsR ((zips t).take q)).map (·.1) ++ [t.words[q]] = (declsR ((zips t).take (q + 1))).map (·.1) := by rw [← HR hqz hnm, hz]; simp
     have e2 : (declsR ((zips t).take q)).map (·.2) ++ [t.kids[q]] = (declsR ((zips t).take (q + 1))).map (·.2) := by rw [← HR hqz hnm, hz]; simp
     rw [e1, e2, term_no hqz hnm]
     exact Gk (q + 1, (a38, k38, z38), (a43, k43, z43), (aT, kT, cT)) ⟨by simp only; omega, HI hqz hno (fun hm => absurd hm hnm)⟩ (by simp only; omega) srA (Sub.drop.trans subF)
    refine Gy (cs := [.int .i64 t.kids[q]]) HZ HZ ?_
    refine Gi bxA memB ?_
    refine HE (i := 4) (j := 8) Ja HZ HZ HZ HZ (fun _ => ?_) (fun _ => ?_)
    ·refine GU (i := 3) (enc := eS) (lst := (declsR ((zips t).take q)).map (·.1)) (lst2 := [t.words[q]]) HZ HZ HZ HZ memA (fun x d hd v hv => eS_one hd hv) (fun _ => rfl) (by simp only [List.length_map, List.length_cons, List.length_nil]; omega) (by simp only [List.length_map, List.length_cons, List.length_nil]; omega) (fun a38 k38 z38 => ?_)
     simp only [List.set_cons_zero, List.set_cons_succ]
     refine Gi bxA memB ?_
     refine qt [10] ?_
     refine Gm (i := 8) Ja HZ HZ (fun _ => ?_)
     refine Gl HZ HZ HZ HZ HZ (fun b42 => ?_)
     refine GH ((Hg (i := 0) (k := 1) (enc := eI) (sz := 1) [t.kids[q]] HZ (.val .nil) (fun _ => rfl) HZ Jb).trans Gv) ?_
     refine Gi bxA memB ?_
     refine Gm (i := 9) Ja HZ HZ (fun _ => ?_)
     refine GU (i := 2) (enc := eI) (lst := (declsR ((zips t).take q)).map (·.2)) (lst2 := [t.kids[q]]) HZ HZ HZ HZ memA (fun x d hd v hv => Hq hd hv) (fun _ => rfl) (by simp only [List.length_map, List.length_cons, List.length_nil]; omega) (by simp only [List.length_map, List.length_cons, List.length_nil]; omega) (fun a43 k43 z43 => ?_)
     simp only [List.set_cons_zero, List.set_cons_succ]
     refine Gi bxA memB ?_
     refine Gm (i := 11) Ja HZ HZ (fun _ => ?_)
     refine GM HZ HZ HZ ?_
     refine GC HZ ?_
     refine qt [12] ?_
     refine Gm (i := 13) Ja HZ HZ (fun _ => ?_)
     refine GM HZ HZ HZ ?_
     refine GC HZ ?_
     refine Gq Ja ?_
     refine qs 9 ?_
     have hnm : ¬ markP (zips t)[q].1 := by rw [hz]; exact c32
     have e1 : (declsR ((zips t).take q)).map (·.1) ++ [t.words[q]] = (declsR ((zips t).take (q + 1))).map (·.1) := by rw [← HR hqz hnm, hz]; simp
     have e2 : (declsR ((zips t).take q)).map (·.2) ++ [t.kids[q]] = (declsR ((zips t).take (q + 1))).map (·.2) := by rw [← HR hqz hnm, hz]; simp
     rw [e1, e2, term_no hqz hnm]
     exact Gk (q + 1, (a38, k38, z38), (a43, k43, z43), (aT, kT, cT)) ⟨by simp only; omega, HI hqz hno (fun hm => absurd hm hnm)⟩ (by simp only; omega) srA (Sub.drop.trans subF)
    refine Gl HZ HZ HZ HZ HZ (fun b42 => ?_)
    refine GH ((Hg (i := 0) (k := 1) (enc := eI) (sz := 1) [t.kids[q]] HZ (.val .nil) (fun _ => rfl) HZ Jb).trans Gv) ?_
    refine Gi bxA memB ?_
    refine Gm (i := 4) Ja HZ HZ (fun _ => ?_)
    refine GU (i := 3) (enc := eS) (lst := (declsR ((zips t).take q)).map (·.1)) (lst2 := [t.words[q]]) HZ HZ HZ HZ memA (fun x d hd v hv => eS_one hd hv) (fun _ => rfl) (by simp only [List.length_map, List.length_cons, List.length_nil]; omega) (by simp only [List.length_map, List.length_cons, List.length_nil]; omega) (fun a38 k38 z38 => ?_)
    simp only [List.set_cons_zero, List.set_cons_succ]
    refine Gi bxA memB ?_
    refine qt [10] ?_
    refine Gm (i := 9) Ja HZ HZ (fun _ => ?_)
    refine GU (i := 2) (enc := eI) (lst := (declsR ((zips t).take q)).map (·.2)) (lst2 := [t.kids[q]]) HZ HZ HZ HZ memA (fun x d hd v hv => Hq hd hv) (fun _ => rfl) (by simp only [List.length_map, List.length_cons, List.length_nil]; omega) (by simp only [List.length_map, List.length_cons, List.length_nil]; omega) (fun a43 k43 z43 => ?_)
    simp only [List.set_cons_zero, List.set_cons_succ]
    refine Gi bxA memB ?_
    refine Gm (i := 11) Ja HZ HZ (fun _ => ?_)
    refine GM HZ HZ HZ ?_
    refine GC HZ ?_
    refine qt [12] ?_
    refine Gm (i := 13) Ja HZ HZ (fun _ => ?_)
    refine GM HZ HZ HZ ?_
    refine GC HZ ?_
    refine Gq Ja ?_
    refine qs 9 ?_
    have hnm : ¬ markP (zips t)[q].1 := by rw [hz]; exact c32
    have e1 : (declsR ((zips t).take q)).map (·.1) ++ [t.words[q]] = (declsR ((zips t).take (q + 1))).map (·.1) := by rw [← HR hqz hnm, hz]; simp
    have e2 : (declsR ((zips t).take q)).map (·.2) ++ [t.kids[q]] = (declsR ((zips t).take (q + 1))).map (·.2) := by rw [← HR hqz hnm, hz]; simp
    rw [e1, e2, term_no hqz hnm]
    exact Gk (q + 1, (a38, k38, z38), (a43, k43, z43), (aT, kT, cT)) ⟨by simp only; omega, HI hqz hno (fun hm => absurd hm hnm)⟩ (by simp only; omega) srA (Sub.drop.trans subF)
   refine Gy (cs := [.int .i64 t.kids[q]]) HZ HZ ?_
   refine Gi bxA memB ?_
   refine HE (i := 3) (j := 8) Ja HZ HZ HZ HZ (fun _ => ?_) (fun _ => ?_)
   ·refine Gl HZ HZ HZ HZ HZ (fun b37 => ?_)
    refine GH ((Hg (i := 0) (k := 1) (enc := eS) (sz := 1) [t.words[q]] HZ (.val .nil) (fun _ => rfl) HZ Jb).trans Gv) ?_
    refine Gi bxA memB ?_
    refine HE (i := 4) (j := 8) Ja HZ HZ HZ HZ (fun _ => ?_) (fun _ => ?_)
    ·refine GU (i := 3) (enc := eS) (lst := (declsR ((zips t).take q)).map (·.1)) (lst2 := [t.words[q]]) HZ HZ HZ HZ memA (fun x d hd v hv => eS_one hd hv) (fun _ => rfl) (by simp only [List.length_map, List.length_cons, List.length_nil]; omega) (by simp only [List.length_map, List.length_cons, List.length_nil]; omega) (fun a38 k38 z38 => ?_)
     simp only [List.set_cons_zero, List.set_cons_succ]
     refine Gi bxA memB ?_
     refine qt [10] ?_
     refine Gm (i := 8) Ja HZ HZ (fun _ => ?_)
     refine Gl HZ HZ HZ HZ HZ (fun b42 => ?_)
     refine GH ((Hg (i := 0) (k := 1) (enc := eI) (sz := 1) [t.kids[q]] HZ (.val .nil) (fun _ => rfl) HZ Jb).trans Gv) ?_
     refine Gi bxA memB ?_
     refine Gm (i := 9) Ja HZ HZ (fun _ => ?_)
     refine GU (i := 2) (enc := eI) (lst := (declsR ((zips t).take q)).map (·.2)) (lst2 := [t.kids[q]]) HZ HZ HZ HZ memA (fun x d hd v hv => Hq hd hv) (fun _ => rfl) (by simp only [List.length_map, List.length_cons, List.length_nil]; omega) (by simp only [List.length_map, List.length_cons, List.length_nil]; omega) (fun a43 k43 z43 => ?_)
     simp only [List.set_cons_zero, List.set_cons_succ]
     refine Gi bxA memB ?_
     refine Gm (i := 11) Ja HZ HZ (fun _ => ?_)
     refine GM HZ HZ HZ ?_
     refine GC HZ ?_
     refine qt [12] ?_
     refine Gm (i := 13) Ja HZ HZ (fun _ => ?_)
     refine GM HZ HZ HZ ?_
     refine GC HZ ?_
     refine Gq Ja ?_
     refine qs 9 ?_
     have hnm : ¬ markP (zips t)[q].1 := by rw [hz]; exact c32
     have e1 : (declsR ((zips t).take q)).map (·.1) ++ [t.words[q]] = (declsR ((zips t).take (q + 1))).map (·.1) := by rw [← HR hqz hnm, hz]; simp
     have e2 : (declsR ((zips t).take q)).map (·.2) ++ [t.kids[q]] = (declsR ((zips t).take (q + 1))).map (·.2) := by rw [← HR hqz hnm, hz]; simp
     rw [e1, e2, term_no hqz hnm]
     exact Gk (q + 1, (a38, k38, z38), (a43, k43, z43), (aT, kT, cT)) ⟨by simp only; omega, HI hqz hno (fun hm => absurd hm hnm)⟩ (by simp only; omega) srA (Sub.drop.trans subF)
    refine Gl HZ HZ HZ HZ HZ (fun b42 => ?_)
    refine GH ((Hg (i := 0) (k := 1) (enc := eI) (sz := 1) [t.kids[q]] HZ (.val .nil) (fun _ => rfl) HZ Jb).trans Gv) ?_
    refine Gi bxA memB ?_
    refine Gm (i := 4) Ja HZ HZ (fun _ => ?_)
    refine GU (i := 3) (enc := eS) (lst := (declsR ((zips t).take q)).map (·.1)) (lst2 := [t.words[q]]) HZ HZ HZ HZ memA (fun x d hd v hv => eS_one hd hv) (fun _ => rfl) (by simp only [List.length_map, List.length_cons, List.length_nil]; omega) (by simp only [List.length_map, List.length_cons, List.length_nil]; omega) (fun a38 k38 z38 => ?_)
    simp only [List.set_cons_zero, List.set_cons_succ]
    refine Gi bxA memB ?_
    refine qt [10] ?_
    refine Gm (i := 9) Ja HZ HZ (fun _ => ?_)
    refine GU (i := 2) (enc := eI) (lst := (declsR ((zips t).take q)).map (·.2)) (lst2 := [t.kids[q]]) HZ HZ HZ HZ memA (fun x d hd v hv => Hq hd hv) (fun _ => rfl) (by simp only [List.length_map, List.length_cons, List.length_nil]; omega) (by simp only [List.length_map, List.length_cons, List.length_nil]; omega) (fun a43 k43 z43 => ?_)
    simp only [List.set_cons_zero, List.set_cons_succ]
    refine Gi bxA memB ?_
    refine Gm (i := 11) Ja HZ HZ (fun _ => ?_)
    refine GM HZ HZ HZ ?_
    refine GC HZ ?_
    refine qt [12] ?_
    refine Gm (i := 13) Ja HZ HZ (fun _ => ?_)
    refine GM HZ HZ HZ ?_
    refine GC HZ ?_
    refine Gq Ja ?_
    refine qs 9 ?_
    have hnm : ¬ markP (zips t)[q].1 := by rw [hz]; exact c32
    have e1 : (declsR ((zips t).take q)).map (·.1) ++ [t.words[q]] = (declsR ((zips t).take (q + 1))).map (·.1) := by rw [← HR hqz hnm, hz]; simp
    have e2 : (declsR ((zips t).take q)).map (·.2) ++ [t.kids[q]] = (declsR ((zips t).take (q + 1))).map (·.2) := by rw [← HR hqz hnm, hz]; simp
    rw [e1, e2, term_no hqz hnm]
    exact Gk (q + 1, (a38, k38, z38), (a43, k43, z43), (aT, kT, cT)) ⟨by simp only; omega, HI hqz hno (fun hm => absurd hm hnm)⟩ (by simp only; omega) srA (Sub.drop.trans subF)
   refine Gl HZ HZ HZ HZ HZ (fun b42 => ?_)
   refine GH ((Hg (i := 0) (k := 1) (enc := eI) (sz := 1) [t.kids[q]] HZ (.val .nil) (fun _ => rfl) HZ Jb).trans Gv) ?_
   refine Gi bxA memB ?_
   refine Gm (i := 3) Ja HZ HZ (fun _ => ?_)
   refine Gl HZ HZ HZ HZ HZ (fun b37 => ?_)
   refine GH ((Hg (i := 0) (k := 1) (enc := eS) (sz := 1) [t.words[q]] HZ (.val .nil) (fun _ => rfl) HZ Jb).trans Gv) ?_
   refine Gi bxA memB ?_
   refine Gm (i := 4) Ja HZ HZ (fun _ => ?_)
   refine GU (i := 3) (enc := eS) (lst := (declsR ((zips t).take q)).map (·.1)) (lst2 := [t.words[q]]) HZ HZ HZ HZ memA (fun x d hd v hv => eS_one hd hv) (fun _ => rfl) (by simp only [List.length_map, List.length_cons, List.length_nil]; omega) (by simp only [List.length_map, List.length_cons, List.length_nil]; omega) (fun a38 k38 z38 => ?_)
   simp only [List.set_cons_zero, List.set_cons_succ]
   refine Gi bxA memB ?_
   refine qt [10] ?_
   refine Gm (i := 9) Ja HZ HZ (fun _ => ?_)
   refine GU (i := 2) (enc := eI) (lst := (declsR ((zips t).take q)).map (·.2)) (lst2 := [t.kids[q]]) HZ HZ HZ HZ memA (fun x d hd v hv => Hq hd hv) (fun _ => rfl) (by simp only [List.length_map, List.length_cons, List.length_nil]; omega) (by simp only [List.length_map, List.length_cons, List.length_nil]; omega) (fun a43 k43 z43 => ?_)
   simp only [List.set_cons_zero, List.set_cons_succ]
   refine Gi bxA memB ?_
   refine Gm (i := 11) Ja HZ HZ (fun _ => ?_)
   refine GM HZ HZ HZ ?_
   refine GC HZ ?_
   refine qt [12] ?_
   refine Gm (i := 13) Ja HZ HZ (fun _ => ?_)
   refine GM HZ HZ HZ ?_
   refine GC HZ ?_
   refine Gq Ja ?_
   refine qs 9 ?_
   have hnm : ¬ markP (zips t)[q].1 := by rw [hz]; exact c32
   have e1 : (declsR ((zips t).take q)).map (·.1) ++ [t.words[q]] = (declsR ((zips t).take (q + 1))).map (·.1) := by rw [← HR hqz hnm, hz]; simp
   have e2 : (declsR ((zips t).take q)).map (·.2) ++ [t.kids[q]] = (declsR ((zips t).take (q + 1))).map (·.2) := by rw [← HR hqz hnm, hz]; simp
   rw [e1, e2, term_no hqz hnm]
   exact Gk (q + 1, (a38, k38, z38), (a43, k43, z43), (aT, kT, cT)) ⟨by simp only; omega, HI hqz hno (fun hm => absurd hm hnm)⟩ (by simp only; omega) srA (Sub.drop.trans subF)
  refine qs 12 ?_
  have hq9 : (zips t).take q = zips t := List.take_of_length_le Jb
  rw [hq9] at hno ⊢
  have htl := termsA_len (zips t)
  have hdl := declsR_len (zips t)
  refine Ga (Ge HZ HZ (sortTm_c (termsA (zips t)) (fun x hx => by have := termsA_in hzin x hx; omega) Jb (i := 0) HZ (fun bs hbp hbs => ?_)))
  rw [terms_sort (m := l.length) (fun z hz _ => hzin z hz) hbp hbs]
  have hrl : (termsR l.length (zips t)).length ≤ 20 := by
   have e9 := terms_sort (m := l.length) (fun z hz _ => hzin z hz) hbp hbs
   have := hbp.length_eq
   rw [← e9]; omega
  simp only [List.set_cons_zero]
  refine qs 6 ?_
  refine Ga (AO.lenO (i := 0) HZ HZ HZ (fun hk88 => ?_))
  rw [List.length_map]
  refine qs 4 ?_
  refine GB (fun (x : Nat × (Option Addr × Nat × Nat) × (Option Addr × Nat × Nat)) => x.1 ≤ (termsR l.length (zips t)).length) (fun x => [(4, .pointer (some ⟨b4, 0, none⟩)), (6, .pointer (some ⟨b6, 0, none⟩)), (87, .slice aT kT cT), (88, .int .i64 (termsR l.length (zips t)).length), (89, .int .i64 (x.1 : Int))]) (fun x => Res.own (.slice aT kT cT) 266 2 ((termsR l.length (zips t)).map eTm) :: Res.own (.slice x.2.2.1 x.2.2.2.1 x.2.2.2.2) 3 1 (((declsR (zips t) ++ (termsR l.length (zips t)).take x.1).map (·.2)).map eI) :: Res.own (.slice x.2.1.1 x.2.1.2.1 x.2.1.2.2) 9 1 (((declsR (zips t) ++ (termsR l.length (zips t)).take x.1).map (·.1)).map eS) :: Res.cells b6 #[.int .i64 t.kind, S t.name, .int .i64 t.n, .slice x.2.1.1 x.2.1.2.1 x.2.1.2.2, .slice x.2.2.1 x.2.2.2.1 x.2.2.2.2] 29 :: _) (fun _ => F) (fun x => (termsR l.length (zips t)).length - x.1) (0, (aW, kW, cW), (aK, kK, cK)) (Nat.zero_le _) srA (Hk (by rw [List.take_zero, List.append_nil])) ?_
  rintro ⟨u, ⟨aW, kW, cW⟩, ⟨aK, kK, cK⟩⟩ hu
  simp only at hu ⊢
  refine qs 2 ?_
  refine Ga (Gw HZ HZ HZ (fun c90 => ?_) (fun c90 => ?_))
  ·refine qs 10 ?_
   have hul : u < (termsR l.length (zips t)).length := by omega
   have hal : (declsR (zips t) ++ (termsR l.length (zips t)).take u).length ≤ 40 := by rw [List.length_append, List.length_take]; omega
   refine Ga (Hb (i := 0) (q := u) HZ HZ HZ HZ HZ (by rw [List.length_map]; exact hul) (fun bo2 ho2 => ?_))
   subst ho2
   refine Ga (AO.loadOA (i := 0) (q := u) (vs := [S (termsR l.length (zips t))[u].1, .int .i64 (termsR l.length (zips t))[u].2]) HZ HZ HZ HZ (eTm_get hul) HZ ?_)
   refine Ga (Gj HZ (fun b14 => ?_))
   refine Ga (Gx HZ HZ HZ HZ ?_)
   refine GH (Hk (L' := Res.cells b14 #[S (termsR l.length (zips t))[u].1, .int .i64 (termsR l.length (zips t))[u].2] 266 :: _) HZ) ?_
   refine qs 2 ?_
   refine GP (fun i => Nat.beq i 13 || Nat.beq i 15) [(b6, _, _), (b14, _, _)] bxA HZ (fun hx hX => ?_)
   refine qt [0, 1, 2, 3, 6, 7, 8] ?_
   refine HE (i := 4) (j := 9) Ja HZ HZ HZ HZ (fun _ => ?_) (fun _ => ?_)
   ·refine Gl HZ HZ HZ HZ HZ (fun b97 => ?_)
    refine GH ((Hg (i := 0) (k := 1) (enc := eS) (sz := 1) [(termsR l.length (zips t))[u].1] HZ (.val .nil) (fun _ => rfl) HZ Jb).trans Gv) ?_
    refine Gi bxA memB ?_
    refine HE (i := 5) (j := 9) Ja HZ HZ HZ HZ (fun _ => ?_) (fun _ => ?_)
    ·refine GU (i := 3) (enc := eS) (lst := (declsR (zips t) ++ (termsR l.length (zips t)).take u).map (·.1)) (lst2 := [(termsR l.length (zips t))[u].1]) HZ HZ HZ HZ memA (fun x d hd v hv => eS_one hd hv) (fun _ => rfl) (by simp only [List.length_map, List.length_cons, List.length_nil]; omega) (by simp only [List.length_map, List.length_cons, List.length_nil]; omega) (fun a98 k98 z98 => ?_)
     simp only [List.set_cons_zero, List.set_cons_succ]
     refine Gi bxA memB ?_
     refine qt [12] ?_
     refine Gm (i := 9) Ja HZ HZ (fun _ => ?_)
     refine Gy (cs := [S (termsR l.length (zips t))[u].1, .int .i64 (termsR l.length (zips t))[u].2]) HZ HZ ?_
     refine Gi bxA memB ?_
     refine Gm (i := 10) Ja HZ HZ (fun _ => ?_)
     refine Gl HZ HZ HZ HZ HZ (fun b103 => ?_)
     refine GH ((Hg (i := 0) (k := 1) (enc := eI) (sz := 1) [(termsR l.length (zips t))[u].2] HZ (.val .nil) (fun _ => rfl) HZ Jb).trans Gv) ?_
     refine Gi bxA memB ?_
     refine Gm (i := 11) Ja HZ HZ (fun _ => ?_)
     refine GU (i := 2) (enc := eI) (lst := (declsR (zips t) ++ (termsR l.length (zips t)).take u).map (·.2)) (lst2 := [(termsR l.length (zips t))[u].2]) HZ HZ HZ HZ memA (fun x d hd v hv => Hq hd hv) (fun _ => rfl) (by simp only [List.length_map, List.length_cons, List.length_nil]; omega) (by simp only [List.length_map, List.length_cons, List.length_nil]; omega) (fun a104 k104 z104 => ?_)
     simp only [List.set_cons_zero, List.set_cons_succ]
     refine Gi bxA memB ?_
     refine Gm (i := 13) Ja HZ HZ (fun _ => ?_)
     refine GM HZ HZ HZ ?_
     refine GC HZ ?_
     refine qt [14] ?_
     refine Gm (i := 15) Ja HZ HZ (fun _ => ?_)
     refine GM HZ HZ HZ ?_
     refine GC HZ ?_
     refine Gq Ja ?_
     refine qs 6 ?_
     rw [fst_snoc, snd_snoc, take_snoc hul]
     exact Gk (u + 1, (a98, k98, z98), (a104, k104, z104)) (by simp only; omega) (by simp only; omega) srA (Sub.drop.trans subF)
    refine Gy (cs := [S (termsR l.length (zips t))[u].1, .int .i64 (termsR l.length (zips t))[u].2]) HZ HZ ?_
    refine Gi bxA memB ?_
    refine HE (i := 5) (j := 10) Ja HZ HZ HZ HZ (fun _ => ?_) (fun _ => ?_)
    ·refine GU (i := 3) (enc := eS) (lst := (declsR (zips t) ++ (termsR l.length (zips t)).take u).map (·.1)) (lst2 := [(termsR l.length (zips t))[u].1]) HZ HZ HZ HZ memA (fun x d hd v hv => eS_one hd hv) (fun _ => rfl) (by simp only [List.length_map, List.length_cons, List.length_nil]; omega) (by simp only [List.length_map, List.length_cons, List.length_nil]; omega) (fun a98 k98 z98 => ?_)
     simp only [List.set_cons_zero, List.set_cons_succ]
     refine Gi bxA memB ?_
     refine qt [12] ?_
     refine Gm (i := 10) Ja HZ HZ (fun _ => ?_)
     refine Gl HZ HZ HZ HZ HZ (fun b103 => ?_)
     refine GH ((Hg (i := 0) (k := 1) (enc := eI) (sz := 1) [(termsR l.length (zips t))[u].2] HZ (.val .nil) (fun _ => rfl) HZ Jb).trans Gv) ?_
     refine Gi bxA memB ?_
     refine Gm (i := 11) Ja HZ HZ (fun _ => ?_)
     refine GU (i := 2) (enc := eI) (lst := (declsR (zips t) ++ (termsR l.length (zips t)).take u).map (·.2)) (lst2 := [(termsR l.length (zips t))[u].2]) HZ HZ HZ HZ memA (fun x d hd v hv => Hq hd hv) (fun _ => rfl) (by simp only [List.length_map, List.length_cons, List.length_nil]; omega) (by simp only [List.length_map, List.length_cons, List.length_nil]; omega) (fun a104 k104 z104 => ?_)
     simp only [List.set_cons_zero, List.set_cons_succ]
     refine Gi bxA memB ?_
     refine Gm (i := 13) Ja HZ HZ (fun _ => ?_)
     refine GM HZ HZ HZ ?_
     refine GC HZ ?_
     refine qt [14] ?_
     refine Gm (i := 15) Ja HZ HZ (fun _ => ?_)
     refine GM HZ HZ HZ ?_
     refine GC HZ ?_
     refine Gq Ja ?_
     refine qs 6 ?_
     rw [fst_snoc, snd_snoc, take_snoc hul]
     exact Gk (u + 1, (a98, k98, z98), (a104, k104, z104)) (by simp only; omega) (by simp only; omega) srA (Sub.drop.trans subF)
    refine Gl HZ HZ HZ HZ HZ (fun b103 => ?_)
    refine GH ((Hg (i := 0) (k := 1) (enc := eI) (sz := 1) [(termsR l.length (zips t))[u].2] HZ (.val .nil) (fun _ => rfl) HZ Jb).trans Gv) ?_
    refine Gi bxA memB ?_
    refine Gm (i := 5) Ja HZ HZ (fun _ => ?_)
    refine GU (i := 3) (enc := eS) (lst := (declsR (zips t) ++ (termsR l.length (zips t)).take u).map (·.1)) (lst2 := [(termsR l.length (zips t))[u].1]) HZ HZ HZ HZ memA (fun x d hd v hv => eS_one hd hv) (fun _ => rfl) (by simp only [List.length_map, List.length_cons, List.length_nil]; omega) (by simp only [List.length_map, List.length_cons, List.length_nil]; omega) (fun a98 k98 z98 => ?_)
    simp only [List.set_cons_zero, List.set_cons_succ]
    refine Gi bxA memB ?_
    refine qt [12] ?_
    refine Gm (i := 11) Ja HZ HZ (fun _ => ?_)
    refine GU (i := 2) (enc := eI) (lst := (declsR (zips t) ++ (termsR l.length (zips t)).take u).map (·.2)) (lst2 := [(termsR l.length (zips t))[u].2]) HZ HZ HZ HZ memA (fun x d hd v hv => Hq hd hv) (fun _ => rfl) (by simp only [List.length_map, List.length_cons, List.length_nil]; omega) (by simp only [List.length_map, List.length_cons, List.length_nil]; omega) (fun a104 k104 z104 => ?_)
    simp only [List.set_cons_zero, List.set_cons_succ]
    refine Gi bxA memB ?_
    refine Gm (i := 13) Ja HZ HZ (fun _ => ?_)
    refine GM HZ HZ HZ ?_
    refine GC HZ ?_
    refine qt [14] ?_
    refine Gm (i := 15) Ja HZ HZ (fun _ => ?_)
    refine GM HZ HZ HZ ?_
    refine GC HZ ?_
    refine Gq Ja ?_
    refine qs 6 ?_
    rw [fst_snoc, snd_snoc, take_snoc hul]
    exact Gk (u + 1, (a98, k98, z98), (a104, k104, z104)) (by simp only; omega) (by simp only; omega) srA (Sub.drop.trans subF)
   refine Gy (cs := [S (termsR l.length (zips t))[u].1, .int .i64 (termsR l.length (zips t))[u].2]) HZ HZ ?_
   refine Gi bxA memB ?_
   refine HE (i := 4) (j := 10) Ja HZ HZ HZ HZ (fun _ => ?_) (fun _ => ?_)
   ·refine Gl HZ HZ HZ HZ HZ (fun b97 => ?_)
    refine GH ((Hg (i := 0) (k := 1) (enc := eS) (sz := 1) [(termsR l.length (zips t))[u].1] HZ (.val .nil) (fun _ => rfl) HZ Jb).trans Gv) ?_
    refine Gi bxA memB ?_
    refine HE (i := 5) (j := 10) Ja HZ HZ HZ HZ (fun _ => ?_) (fun _ => ?_)
    ·refine GU (i := 3) (enc := eS) (lst := (declsR (zips t) ++ (termsR l.length (zips t)).take u).map (·.1)) (lst2 := [(termsR l.length (zips t))[u].1]) HZ HZ HZ HZ memA (fun x d hd v hv => eS_one hd hv) (fun _ => rfl) (by simp only [List.length_map, List.length_cons, List.length_nil]; omega) (by simp only [List.length_map, List.length_cons, List.length_nil]; omega) (fun a98 k98 z98 => ?_)
     simp only [List.set_cons_zero, List.set_cons_succ]
     refine Gi bxA memB ?_
     refine qt [12] ?_
     refine Gm (i := 10) Ja HZ HZ (fun _ => ?_)
     refine Gl HZ HZ HZ HZ HZ (fun b103 => ?_)
     refine GH ((Hg (i := 0) (k := 1) (enc := eI) (sz := 1) [(termsR l.length (zips t))[u].2] HZ (.val .nil) (fun _ => rfl) HZ Jb).trans Gv) ?_
     refine Gi bxA memB ?_
     refine Gm (i := 11) Ja HZ HZ (fun _ => ?_)
     refine GU (i := 2) (enc := eI) (lst := (declsR (zips t) ++ (termsR l.length (zips t)).take u).map (·.2)) (lst2 := [(termsR l.length (zips t))[u].2]) HZ HZ HZ HZ memA (fun x d hd v hv => Hq hd hv) (fun _ => rfl) (by simp only [List.length_map, List.length_cons, List.length_nil]; omega) (by simp only [List.length_map, List.length_cons, List.length_nil]; omega) (fun a104 k104 z104 => ?_)
     simp only [List.set_cons_zero, List.set_cons_succ]
     refine Gi bxA memB ?_
     refine Gm (i := 13) Ja HZ HZ (fun _ => ?_)
     refine GM HZ HZ HZ ?_
     refine GC HZ ?_
     refine qt [14] ?_
     refine Gm (i := 15) Ja HZ HZ (fun _ => ?_)
     refine GM HZ HZ HZ ?_
     refine GC HZ ?_
     refine Gq Ja ?_
     refine qs 6 ?_
     rw [fst_snoc, snd_snoc, take_snoc hul]
     exact Gk (u + 1, (a98, k98, z98), (a104, k104, z104)) (by simp only; omega) (by simp only; omega) srA (Sub.drop.trans subF)
    refine Gl HZ HZ HZ HZ HZ (fun b103 => ?_)
    refine GH ((Hg (i := 0) (k := 1) (enc := eI) (sz := 1) [(termsR l.length (zips t))[u].2] HZ (.val .nil) (fun _ => rfl) HZ Jb).trans Gv) ?_
    refine Gi bxA memB ?_
    refine Gm (i := 5) Ja HZ HZ (fun _ => ?_)
    refine GU (i := 3) (enc := eS) (lst := (declsR (zips t) ++ (termsR l.length (zips t)).take u).map (·.1)) (lst2 := [(termsR l.length (zips t))[u].1]) HZ HZ HZ HZ memA (fun x d hd v hv => eS_one hd hv) (fun _ => rfl) (by simp only [List.length_map, List.length_cons, List.length_nil]; omega) (by simp only [List.length_map, List.length_cons, List.length_nil]; omega) (fun a98 k98 z98 => ?_)
    simp only [List.set_cons_zero, List.set_cons_succ]
    refine Gi bxA memB ?_
    refine qt [12] ?_
    refine Gm (i := 11) Ja HZ HZ (fun _ => ?_)
    refine GU (i := 2) (enc := eI) (lst := (declsR (zips t) ++ (termsR l.length (zips t)).take u).map (·.2)) (lst2 := [(termsR l.length (zips t))[u].2]) HZ HZ HZ HZ memA (fun x d hd v hv => Hq hd hv) (fun _ => rfl) (by simp only [List.length_map, List.length_cons, List.length_nil]; omega) (by simp only [List.length_map, List.length_cons, List.length_nil]; omega) (fun a104 k104 z104 => ?_)
    simp only [List.set_cons_zero, List.set_cons_succ]
    refine Gi bxA memB ?_
    refine Gm (i := 13) Ja HZ HZ (fun _ => ?_)
    refine GM HZ HZ HZ ?_
    refine GC HZ ?_
    refine qt [14] ?_
    refine Gm (i := 15) Ja HZ HZ (fun _ => ?_)
    refine GM HZ HZ HZ ?_
    refine GC HZ ?_
    refine Gq Ja ?_
    refine qs 6 ?_
    rw [fst_snoc, snd_snoc, take_snoc hul]
    exact Gk (u + 1, (a98, k98, z98), (a104, k104, z104)) (by simp only; omega) (by simp only; omega) srA (Sub.drop.trans subF)
   refine Gl HZ HZ HZ HZ HZ (fun b103 => ?_)
   refine GH ((Hg (i := 0) (k := 1) (enc := eI) (sz := 1) [(termsR l.length (zips t))[u].2] HZ (.val .nil) (fun _ => rfl) HZ Jb).trans Gv) ?_
   refine Gi bxA memB ?_
   refine Gm (i := 4) Ja HZ HZ (fun _ => ?_)
   refine Gl HZ HZ HZ HZ HZ (fun b97 => ?_)
   refine GH ((Hg (i := 0) (k := 1) (enc := eS) (sz := 1) [(termsR l.length (zips t))[u].1] HZ (.val .nil) (fun _ => rfl) HZ Jb).trans Gv) ?_
   refine Gi bxA memB ?_
   refine Gm (i := 5) Ja HZ HZ (fun _ => ?_)
   refine GU (i := 3) (enc := eS) (lst := (declsR (zips t) ++ (termsR l.length (zips t)).take u).map (·.1)) (lst2 := [(termsR l.length (zips t))[u].1]) HZ HZ HZ HZ memA (fun x d hd v hv => eS_one hd hv) (fun _ => rfl) (by simp only [List.length_map, List.length_cons, List.length_nil]; omega) (by simp only [List.length_map, List.length_cons, List.length_nil]; omega) (fun a98 k98 z98 => ?_)
   simp only [List.set_cons_zero, List.set_cons_succ]
   refine Gi bxA memB ?_
   refine qt [12] ?_
   refine Gm (i := 11) Ja HZ HZ (fun _ => ?_)
   refine GU (i := 2) (enc := eI) (lst := (declsR (zips t) ++ (termsR l.length (zips t)).take u).map (·.2)) (lst2 := [(termsR l.length (zips t))[u].2]) HZ HZ HZ HZ memA (fun x d hd v hv => Hq hd hv) (fun _ => rfl) (by simp only [List.length_map, List.length_cons, List.length_nil]; omega) (by simp only [List.length_map, List.length_cons, List.length_nil]; omega) (fun a104 k104 z104 => ?_)
   simp only [List.set_cons_zero, List.set_cons_succ]
   refine Gi bxA memB ?_
   refine Gm (i := 13) Ja HZ HZ (fun _ => ?_)
   refine GM HZ HZ HZ ?_
   refine GC HZ ?_
   refine qt [14] ?_
   refine Gm (i := 15) Ja HZ HZ (fun _ => ?_)
   refine GM HZ HZ HZ ?_
   refine GC HZ ?_
   refine Gq Ja ?_
   refine qs 6 ?_
   rw [fst_snoc, snd_snoc, take_snoc hul]
   exact Gk (u + 1, (a98, k98, z98), (a104, k104, z104)) (by simp only; omega) (by simp only; omega) srA (Sub.drop.trans subF)
  refine qs 11 ?_
  have hu9 : (termsR l.length (zips t)).take u = termsR l.length (zips t) := List.take_of_length_le Jb
  rw [hu9, hname]
  refine GH ((Gz (i := 1) HZ).trans (Gz (i := 2) HZ)) ?_
  simp only [List.set_cons_zero, List.set_cons_succ]
  refine Ga (HD HZ HZ ?_)
  refine qs 5 ?_
  exact Gn (rs := [.cell 4 _, .tmp 5]) (L' := L) (F' := fW (termsT l.length t) _ _ _ :: fK (termsT l.length t) _ _ _ :: F) Tryz.results176 (.agg (j := 4) rfl rfl rfl (.tmp rfl .nil)) (Sub.drop.trans (Sub.drop.trans (Sub.drop.trans (Sub.drop.trans (Sub.drop.trans (Sub.drop.trans (Gh (mem2 memA memA (fun x hx => by repeat (first | exact hx | refine List.mem_cons_of_mem _ ?_)))))))))) (hF (odd_not hno) _ _ _ _ _ _)
end
end Go.Sy
namespace Go.Sy
open Go Go.Proofs Go.RowKit
theorem Sub.ownNone {L : List Res} {F : List Fact} {e : TypeId} {sz k c : Nat} {rows : List (List D)} (hm : Fact.slc (.slice none k c) sz rows ∈ F) : Sub L F (Res.own (.slice none 0 0) e sz rows :: L) F := by
  intro W0 w s
  have hk : rows = [] := by
    obtain ⟨hh, hf, _⟩ := s.fact hm
    have hf' : CR hh (.slice none k c) (.slc sz rows) := hf
    generalize hd : D.slc sz rows = dd at hf'
    cases hf' with
    | val => simp at hd
    | nil => simp at hd; exact hd.2
  subst hk
  exact GZ W0 w s
attribute [local irreducible] AC AT AO AK AH ACalls Sub Res.cells Res.obj Res.nix Res.own Res.map Exit.then Exit.inBlock bodyPost Code.wp Code.wpIn WL Next Post Kont
section
variable {W0 : World} {L : List Res} {F : List Fact} {R : Value → List Res → List Fact → Prop}
set_option maxRecDepth 100000
set_option maxHeartbeats 4000000
theorem clone_c (ks : List Int) (hl : ks.length ≤ 1000) {a : Option Addr} {k c : Nat} (m1 : Fact.slc (.slice a k c) 1 (ks.map eI) ∈ F) (h : ∀ a k c, R (.slice a k c) (Res.own (.slice a k c) 3 1 (ks.map eI) :: L) F) : ACalls Tryz.prog W0 175 #[.slice a k c] L F R := by
  refine Gg Tryz.func175 HZ Tryz.ntmps175 HZ ?_
  refine qs 9 ?_
  refine Ga (AO.eqlSN Tryz.underlying27 HZ HZ HZ (fun c4 => ?_) (fun b4 c4 => ?_))
  ·refine qs 10 ?_
   first
   | exact Gb Tryz.results175 rfl (Gf _ _) (h a7 k7 z7)
   | (subst c4; exact Gb (F' := F) Tryz.results175 rfl (Sub.ownNone m1) (h none 0 0))
  refine qs 7 ?_
  refine Ga (He HZ (fun b5 => ?_))
  refine GH (Hz (i := 0) (k := 0) (sz := 1) (enc := eI) [] HZ .nil (fun _ => rfl) HZ (by decide)) ?_
  refine qs 1 ?_
  refine Ga (GU (i := 0) (enc := eI) (lst := []) (lst2 := ks) HZ HZ HZ HZ memA (fun x d hd v hv => by subst hv; simp at hd; subst hd; rfl) (fun _ => rfl) (by simp only [maxLen, List.length_nil]; omega) (by simp only [List.length_nil]; omega) (fun a7 k7 z7 => ?_))
  refine qs 4 ?_
  first
  | exact Gb Tryz.results175 rfl (Gf _ _) (h a7 k7 z7)
  | (subst c4; exact Gb (F' := F) Tryz.results175 rfl (Sub.ownNone m1) (h none 0 0))
end
end Go.Sy
namespace Go.Sy
open Go Go.Proofs
theorem name_short2 {s : List UInt8} (h : isName s = true) : s.length ≤ 20 := by
  unfold isName at h
  simp only [Bool.and_eq_true, decide_eq_true_eq] at h
  exact h.1.1.2
theorem field_short2 (w : List UInt8) : w.length ≤ (fieldN w).length + 1 := by
  unfold fieldN; split <;> simp
theorem cut_join (c : UInt8) : ∀ s : List UInt8, s.length ≤ (cutD c s).1.length + (cutD c s).2.1.length + 1
  | [] => by simp
  | x :: s => by
    have ih := cut_join c s
    unfold cutD
    split
    · simp
    simp only [List.length_cons]; omega
theorem named_short {s : List UInt8} (h : namedP s) : s.length ≤ 41 := by
  have h1 := name_short2 h.2.1
  have h2 := name_short2 h.2.2
  have h3 := cut_join 46 s
  omega
theorem made_ok {l : List Ty} (hl : l.length ≤ 400) {t : Ty} (h : madeP l t) : TyOk t := by
  obtain ⟨hk, hf, hn, hw, hK⟩ := h
  have hkind : 1 ≤ t.kind ∧ t.kind ≤ 9 := by rcases hK with e | e | e | e | e | e | e | e | e <;> (have := e.1; omega)
  refine ⟨by omega, ?_, ?_, ?_, ?_, by omega, fun k hm => by have := hk k hm; omega⟩
  · rcases hK with e | e | e | e | e | e | e | e | e
    · have := e.2.1; omega
    · have := e.2.1; omega
    · have := e.2.1; have := e.2.2.1; omega
    · have := e.2.1; omega
    · rcases e.2 with e | e
      · omega
      have := e.1; omega
    · have := e.2.1; omega
    · have h1 := e.2.2.1; have h2 := e.2.2.2.1; omega
    · have := e.2.1; omega
    have := e.2.1; have := e.2.2.1; omega
  · by_cases c : t.kind = 8
    · have := named_short ((madeK_8 c).1 hK).2; omega
    rw [hn c]; simp
  · by_cases c6 : t.kind = 6
    · have := ((HY c6).1 hK).2.2; omega
    by_cases c7 : t.kind = 7
    · have := ((madeK_7 c7).1 hK).1; omega
    rw [hw c6 c7]; simp
  intro w hm
  by_cases c6 : t.kind = 6
  · obtain ⟨i, hi, rfl⟩ := List.getElem_of_mem hm
    have h1 := name_short2 (((HY c6).1 hK).2.1 i hi).1
    have h2 := field_short2 t.words[i]
    omega
  by_cases c7 : t.kind = 7
  · obtain ⟨i, hi, rfl⟩ := List.getElem_of_mem hm
    rcases ((madeK_7 c7).1 hK).2.2.2 i hi with h1 | h1
    · rcases h1.1 with e | e <;> rw [e] <;> decide
    have := name_short2 h1.2.1; omega
  rw [hw c6 c7] at hm; simp at hm
theorem right_ok {l : List Ty} (h : rightP l) : ∀ t ∈ l, TyOk t := by
  intro t ht
  obtain ⟨q, hq, rfl⟩ := List.getElem_of_mem ht
  have hr := h.2.2 q hq
  unfold rowAt at hr
  by_cases c : q < 22
  · rw [if_pos c] at hr
    have hql : q < startL.length := by rw [start_len]; exact c
    rw [hr, start_get hql]
    exact start_ok _ (List.getElem_mem hql)
  rw [if_neg c] at hr
  have := h.2.1
  exact made_ok (by rw [List.length_take]; omega) hr.1
theorem decl_term_len (zs : List Tm) : (declsR zs).length + (termsA zs).length ≤ zs.length := by
  refine snocInd (P := fun zs => (declsR zs).length + (termsA zs).length ≤ zs.length) (by simp [declsR, termsA]) ?_ zs
  intro zs z ih
  rw [termsA_snoc, declsR_snoc, List.length_append]
  split
  · have : (addTm (termsA zs) z).length ≤ (termsA zs).length + 1 := by
      unfold addTm
      split
      · rw [List.length_append]; simp
      split
      · rw [List.length_set]; omega
      omega
    simp only [List.length_cons, List.length_nil]; omega
  rw [List.length_append]; simp only [List.length_cons, List.length_nil]; omega
theorem termsR_len {m : Nat} {zs : List Tm} (hz : ∀ z ∈ zs, 0 ≤ z.2 ∧ z.2 < m) : (termsR m zs).length = (termsA zs).length := by
  have hp := List.mergeSort_perm (termsA zs) (fun x y => decide (x.2 ≤ y.2))
  have hs : ((termsA zs).mergeSort (fun x y => decide (x.2 ≤ y.2))).Pairwise fun x y => x.2 ≤ y.2 := by
    have := List.pairwise_mergeSort (le := fun (x y : Tm) => decide (x.2 ≤ y.2)) (fun a b c h1 h2 => by simp at *; omega) (fun a b => by simp; omega) (termsA zs)
    exact this.imp fun h => by simpa using h
  rw [← terms_sort (fun z h _ => hz z h) hp hs]
  exact hp.length_eq
theorem zips_kids {t : Ty} (h : t.words.length = t.kids.length) : (zips t).length = t.kids.length := by unfold zips; rw [List.length_zip]; omega
theorem termsT_len {m : Nat} {t : Ty} (hw : t.words.length = t.kids.length) (hk : ∀ k ∈ t.kids, 0 ≤ k ∧ k < m) : (termsT m t).kids.length ≤ t.kids.length ∧ (termsT m t).words.length ≤ t.kids.length := by
  have h1 := decl_term_len (zips t)
  have h2 := termsR_len (m := m) (zips_in hk)
  have h3 := zips_kids hw
  have h4 : (declsR (zips t) ++ termsR m (zips t)).length ≤ t.kids.length := by rw [List.length_append]; omega
  unfold termsT
  simp only [List.length_map]
  omega
theorem terms_mem {m : Nat} {t : Ty} (hk : ∀ k ∈ t.kids, 0 ≤ k ∧ k < m) : ∀ z ∈ declsR (zips t) ++ termsR m (zips t), 0 ≤ z.2 ∧ z.2 < m ∧ (z.1 ∈ t.words ∨ markP z.1) := by
  intro z hz
  rcases List.mem_append.1 hz with h | h
  · have hm : z ∈ zips t := (List.mem_filter.1 h).1
    have := zips_in hk z hm
    exact ⟨this.1, this.2, .inl (List.of_mem_zip hm).1⟩
  have := (termsR_mem m (zips t) z).1 h
  exact ⟨this.2.2.1, this.2.2.2, .inr (this.1 ▸ (markOf_is (zips t) z.2).resolve_left (by rw [← this.1]; exact this.2.1))⟩
theorem mapK_ok {out : List Ty} (ho : out.length ≤ 400) {ins : List Int} {t : Ty} (ht : TyOk t) (hk : ∀ k ∈ (mapK ins t).kids, 0 ≤ k ∧ k < out.length) : TyOk (mapK ins t) := by
  refine ⟨ht.kind, ht.n, ht.name, ht.words, ht.word, ?_, fun k hm => by have := hk k hm; omega⟩
  unfold mapK; simp only [List.length_map]; exact ht.kids
theorem termsT_ok {m : Nat} (hm : m ≤ 400) {t : Ty} (ht : TyOk t) (hw : t.words.length = t.kids.length) (hk : ∀ k ∈ t.kids, 0 ≤ k ∧ k < m) : TyOk (termsT m t) := by
  obtain ⟨h1, h2⟩ := termsT_len hw hk
  have hkl := ht.kids
  have hmem := terms_mem hk
  refine ⟨ht.kind, ht.n, by simp [termsT], by omega, ?_, by omega, ?_⟩
  · intro w hx
    obtain ⟨z, hz, rfl⟩ := List.mem_map.1 hx
    rcases (hmem z hz).2.2 with h | h
    · exact ht.word _ h
    rcases h with e | e <;> rw [e] <;> decide
  intro k hx
  obtain ⟨z, hz, rfl⟩ := List.mem_map.1 hx
  have := hmem z hz
  omega
theorem getD_eq {α : Type} {l : List α} {q : Nat} (z : α) (hq : q < l.length) : l.getD q z = l[q] := by rw [List.getD_eq_getElem?_getD, List.getElem?_eq_getElem hq]; rfl
def MapS (M : List Bool) (ins : List Int) (q : Nat) (m : Int → Option Int) : Prop := ∀ p : Nat, p < q → M.getD p false = true → m (p : Int) = some (ins.getD p 0)
open Classical in
theorem MapS.upd {M : List Bool} {ins : List Int} {q : Nat} {m : Int → Option Int} (h : MapS M ins q m) (hl : ins.length = q) (x : Int) : MapS M (ins ++ [x]) (q + 1) (upd m (q : Int) x) := by
  intro p hp hM
  by_cases e : p = q
  · subst e
    rw [upd_self, ← hl]; simp [List.getD_eq_getElem?_getD]
  rw [upd_ne _ Jb, getD_app _ _ _ Jb]
  exact h p Jb hM
theorem MapS.skip {M : List Bool} {ins : List Int} {q : Nat} {m : Int → Option Int} (h : MapS M ins q m) (hl : ins.length = q) (x : Int) (hM : M.getD q false = false) : MapS M (ins ++ [x]) (q + 1) m := by
  intro p hp hMp
  by_cases e : p = q
  · subst e; rw [hM] at hMp; cases hMp
  rw [getD_app _ _ _ Jb]
  exact h p Jb hMp
section
variable {l : List Ty} {args A : List Int} {M : List Bool} {q : Nat} {out : List Ty} {ins : List Int}
theorem sub_out (hs : subN l args A M q = .ok (out, ins)) (h : M.getD q false = false ∨ A.getD q 0 = 0) : subN l args A M (q + 1) = .ok (out, ins ++ [(q : Int)]) := by
  rw [subN, hs]; simp only; unfold stepS; rw [if_pos h]
theorem sub_param (hs : subN l args A M q = .ok (out, ins)) (hM : M.getD q false = true) (hA : A.getD q 0 ≠ 0) (hq : q < l.length) (h9 : l[q].kind = 9) : subN l args A M (q + 1) = .ok (out, ins ++ [args.getD l[q].n.toNat 0]) := by
  rw [subN, hs]; simp only; unfold stepS
  rw [if_neg (by rw [hM]; simp only [Bool.true_eq_false, false_or]; exact hA), getD_eq _ hq, if_pos h9]
theorem sub_put (hs : subN l args A M q = .ok (out, ins)) (hM : M.getD q false = true) (hA : A.getD q 0 ≠ 0) (hq : q < l.length) (h9 : l[q].kind ≠ 9) : subN l args A M (q + 1) = putS out ins (mapK ins l[q]) := by
  rw [subN, hs]; simp only; unfold stepS
  rw [if_neg (by rw [hM]; simp only [Bool.true_eq_false, false_or]; exact hA), getD_eq _ hq, if_neg h9]
end
theorem put_odd {out : List Ty} {ins : List Int} {t : Ty} (h7 : t.kind = 7) (ho : oddP out t) : putS out ins t = .error 11 := by unfold putS; rw [if_pos ⟨h7, ho⟩]
theorem put_iface {out : List Ty} {ins : List Int} {t : Ty} (hr : rightP out) (h7 : t.kind = 7) (ho : ¬ oddP out t) {m : List Ty} {i e : Int} (h : AddP out (termsT out.length t) m i e) : putS out ins t = if e = 0 then .ok (m, ins ++ [i]) else .error e := by
  unfold putS; rw [if_neg (fun h => ho h.2), if_pos h7, addF_is hr h]
theorem put_plain {out : List Ty} {ins : List Int} {t : Ty} (hr : rightP out) (h7 : t.kind ≠ 7) {m : List Ty} {i e : Int} (h : AddP out t m i e) : putS out ins t = if e = 0 then .ok (m, ins ++ [i]) else .error e := by
  unfold putS; rw [if_neg (fun h => h7 h.1), if_neg h7, addF_is hr h]
def kidsS (ins ks : List Int) (v : Nat) : List Int := (ks.take v).map (fun k => ins.getD k.toNat 0) ++ ks.drop v
theorem kidsS_len (ins ks : List Int) (v : Nat) : (kidsS ins ks v).length = ks.length := by unfold kidsS; rw [List.length_append, List.length_map, List.length_take, List.length_drop]; omega
theorem kidsS_zero (ins ks : List Int) : kidsS ins ks 0 = ks := by simp [kidsS]
theorem kidsS_all (ins ks : List Int) {v : Nat} (h : ks.length ≤ v) : kidsS ins ks v = ks.map (fun k => ins.getD k.toNat 0) := by
  unfold kidsS; rw [List.take_of_length_le h, List.drop_eq_nil_of_le h, List.append_nil]
theorem kidsS_get {ins ks : List Int} {v : Nat} (hv : v < ks.length) : (kidsS ins ks v)[v]? = some ks[v] := by
  unfold kidsS
  rw [List.getElem?_append_right (by simp; omega)]
  simp [Nat.min_eq_left (Nat.le_of_lt hv), List.getElem?_drop, hv]
theorem kidsS_set {ins ks : List Int} {v : Nat} (hv : v < ks.length) : (kidsS ins ks v).set v (ins.getD ks[v].toNat 0) = kidsS ins ks (v + 1) := by
  unfold kidsS
  have hl : ((ks.take v).map (fun k => ins.getD k.toNat 0)).length = v := by rw [List.length_map, List.length_take]; omega
  rw [List.set_append_right _ _ Jb, hl, Nat.sub_self, List.drop_eq_getElem_cons hv, List.set_cons_zero, List.take_succ_eq_append_getElem hv, List.map_append]
  simp
end Go.Sy
namespace Go.Sy
open Go Go.Proofs Go.RowKit
theorem eIs_get {A : List Int} {q : Nat} {x : Int} (h : A[q]? = some x) : (A.map eI)[q]? = some [.val (.int .i64 x)] := by rw [List.getElem?_map, h]; rfl
theorem eIs_set {A : List Int} {q : Nat} {x : Int} : (A.map eI).set q [.val (.int .i64 x)] = (A.set q x).map eI := by rw [List.map_set]
theorem bad_of {l : List Ty} {args : List Int} (h : ¬ ∀ j (hj : j < args.length), ¬ (args[j] < 0 ∨ args[j] ≥ (l.length : Int))) : ∃ a ∈ args, ¬(0 ≤ a ∧ a < l.length) := by
  refine Classical.byContradiction fun hn => h fun j hj hx => hn ⟨args[j], List.getElem_mem hj, by omega⟩
theorem good_of {l : List Ty} {args : List Int} (h : ∀ j (hj : j < args.length), ¬ (args[j] < 0 ∨ args[j] ≥ (l.length : Int))) : ∀ a ∈ args, 0 ≤ a ∧ a < l.length := by
  intro a ha
  obtain ⟨j, hj, rfl⟩ := List.getElem_of_mem ha
  have := h j hj
  omega
theorem not_bad {l : List Ty} {i : Nat} {args : List Int} (h1 : ∀ a ∈ args, 0 ≤ a ∧ a < l.length) (h2 : (asksL (l.take (i + 1))).getD i 0 ≤ args.length) : ¬ badArgs l i args := by
  rintro (h | ⟨a, ha, hn⟩)
  · omega
  exact hn (h1 a ha)
theorem subR_bad {l : List Ty} {i : Nat} {args : List Int} (h : badArgs l i args) : subR l i args = .error 1 := by unfold subR; rw [if_pos h]
theorem subR_ok {l : List Ty} {i : Nat} {args : List Int} (h : ¬ badArgs l i args) {out : List Ty} {ins : List Int} (hs : subN l args (asksL (l.take (i + 1))) (partsL l i) (i + 1) = .ok (out, ins)) : subR l i args = .ok (out, ins.getD i 0) := by
  unfold subR; rw [if_neg h, hs]
theorem subR_error {l : List Ty} {i : Nat} {args : List Int} (h : ¬ badArgs l i args) {q : Nat} (hq : q ≤ i + 1) {e : Int} (hs : subN l args (asksL (l.take (i + 1))) (partsL l i) q = .error e) : subR l i args = .error e := by
  have h2 := subN_error hs (i + 1 - q)
  rw [show q + (i + 1 - q) = i + 1 by omega] at h2
  unfold subR; rw [if_neg h, h2]
attribute [local irreducible] AC AT AO AK AH ACalls Sub Res.cells Res.obj Res.nix Res.own Res.map Exit.then Exit.inBlock bodyPost Code.wp Code.wpIn WL Next Post Kont
section
variable {W0 : World} {L : List Res} {F : List Fact} {R : Value → List Res → List Fact → Prop}
set_option maxRecDepth 100000
set_option maxHeartbeats 8000000
theorem there_c (g : Glob W0) (l : List Ty) (hok : ∀ t ∈ l, TyOk t) (i : Int) {a : Option Addr} {k c : Nat} (mL : fL l a k c ∈ F) (h1 : ¬ rightP l → R (.int .i64 1) L F) (h2 : rightP l → ¬(0 ≤ i ∧ i < l.length) → R (.int .i64 8) L F) (h3 : rightP l → 0 ≤ i ∧ i < l.length → R (.int .i64 0) L F) : ACalls Tryz.prog W0 171 #[.slice a k c, .int .i64 i] L F R := by
  refine Gg Tryz.func171 HZ Tryz.ntmps171 HZ ?_
  refine qs 10 ?_
  refine Ga (Ge HZ HZ (right_c g l hok memA (fun c7 => ?_) (fun c7 => ?_)))
  ·refine qs 8 ?_
   refine Ga (Gw HZ HZ HZ (fun c11 => ?_) (fun c11 => ?_))
   ·refine qs 18 ?_
    exact Gb Tryz.results171 rfl subF (h2 c7 Jb)
   refine qs 3 ?_
   refine Gc HZ HZ (Gt HZ HZ (fun hl15 => ?_) (hm := by repeat (first | exact mem0 | assumption | refine memS ?_)))
   refine Gc HZ HZ (GY HZ HZ HZ (fun c16 => ?_) (fun c16 => ?_))
   ·refine qs 13 ?_
    exact Gb Tryz.results171 rfl subF (h2 c7 Jb)
   refine qs 14 ?_
   exact Gb Tryz.results171 rfl subF (h3 c7 Jb)
  refine qs 13 ?_
  exact Gb Tryz.results171 rfl subF (h1 c7)
theorem sub1_c (l : List Ty) (s : Int) {a3 : Option Addr} {k3 c3 b i : Nat} {ty : TypeId} (m3 : fL l a3 k3 c3 ∈ F) (hb : L[i]? = some (Res.cells b #[.slice a3 k3 c3] ty)) (hT : s < 0 ∨ s ≥ l.length → R (.bool true) L F) (hF : ¬(s < 0 ∨ s ≥ l.length) → R (.bool false) L F) :
    ACalls Tryz.prog W0 173 #[.int .i64 s, .pointer (some ⟨b, 0, none⟩)] L F R := by
  refine Gg Tryz.func173 HZ Tryz.ntmps173 HZ ?_
  refine qs 8 ?_
  refine Ga (Gw HZ HZ HZ (fun c5 => ?_) (fun c5 => ?_))
  ·refine qs 10 ?_
   first | exact Gb (L' := L) (F' := F) Tryz.results173 rfl subF (hT (Or.inl c5)) | exact Gb (L' := L) (F' := F) Tryz.results173 rfl subF (hT (Or.inr c10)) | exact Gb (L' := L) (F' := F) Tryz.results173 rfl subF (hF Jb)
  refine qs 2 ?_
  refine Gc HZ HZ (Gy (cs := [.slice a3 k3 c3]) HZ HZ ?_ (hi := hb) (hv := HZ))
  refine Gc HZ HZ (Gt HZ HZ (fun hl9 => ?_) (hm := m3))
  refine Gc HZ HZ (GY HZ HZ HZ (fun c10 => ?_) (fun c10 => ?_))
  ·refine qs 5 ?_
   first | exact Gb (L' := L) (F' := F) Tryz.results173 rfl subF (hT (Or.inl c5)) | exact Gb (L' := L) (F' := F) Tryz.results173 rfl subF (hT (Or.inr c10)) | exact Gb (L' := L) (F' := F) Tryz.results173 rfl subF (hF Jb)
  refine qs 5 ?_
  first | exact Gb (L' := L) (F' := F) Tryz.results173 rfl subF (hT (Or.inl c5)) | exact Gb (L' := L) (F' := F) Tryz.results173 rfl subF (hT (Or.inr c10)) | exact Gb (L' := L) (F' := F) Tryz.results173 rfl subF (hF Jb)
end
end Go.Sy
namespace Go.Sy
abbrev GK := @getD_eq
abbrev Hj := @right_ok
abbrev HT := @subR_error
end Go.Sy
namespace Go.Sy
open Go Go.Proofs
def askAt (N : List Ty) (p : Nat) : Int := (asksL N).getD p 0
theorem ask_all (N : List Ty) : asksL N = asksL (N.take N.length) := by rw [List.take_length]
theorem ask_in {N : List Ty} {i p : Nat} (hi : i < N.length) (hp : p ≤ i) : (asksL (N.take (i + 1))).getD p 0 = askAt N p := by
  unfold askAt
  rw [ask_all N]
  have e : N.length = i + 1 + (N.length - (i + 1)) := by omega
  have := asks_pre N (N.length - (i + 1)) (i + 1) p Jb Jb
  rw [← e] at this
  exact this.symm
theorem ask_one {N : List Ty} {p : Nat} (hp : p < N.length) : askAt N p = ask1 (asksL (N.take p)) N[p] := by
  rw [← ask_in hp (Nat.le_refl p)]
  exact asks_at hp (Nat.le_refl p)
theorem ask_pre {N M : List Ty} (h : N <+: M) {p : Nat} (hp : p < N.length) : askAt M p = askAt N p := by
  obtain ⟨r, rfl⟩ := h
  have hp2 : p < (N ++ r).length := by simp; omega
  rw [← ask_in hp2 (Nat.le_refl p), ← ask_in hp (Nat.le_refl p), List.take_append_of_le_length Jb]
theorem ask_nonneg {N : List Ty} (hr : rightP N) {p : Nat} (hp : p < N.length) : 0 ≤ askAt N p := by
  rw [← ask_in hp (Nat.le_refl p)]; exact asks_nonneg hr hp (Nat.le_refl p)
theorem ask_kid {N : List Ty} (hr : rightP N) {p : Nat} (hp : p < N.length) {k : Int} (hk : k ∈ N[p].kids) : askAt N k.toNat ≤ askAt N p := by
  have hb := (GT hr hp).kids k hk
  rw [← ask_in hp (Nat.le_refl p), ← ask_in hp (show k.toNat ≤ p by omega)]
  exact asks_kid hr hp (Nat.le_refl p) hk
theorem ask_param {N : List Ty} (hr : rightP N) {p : Nat} (hp : p < N.length) (h9 : N[p].kind = 9) : askAt N p = N[p].n + 1 := by
  rw [ask_one hp]
  unfold ask1 ask0
  rw [if_pos h9, ((GT hr hp).param h9).2.2]; rfl
def mapG (g : Int → Nat) (t : Ty) : Ty := ⟨t.kind, t.name, t.n, t.words, t.kids.map fun k => ((g k : Nat) : Int)⟩
def normT (m : Nat) (t : Ty) : Ty := if t.kind = 7 then termsT m t else t
theorem mapG_congr {g f : Int → Nat} {t : Ty} (h : ∀ k ∈ t.kids, g k = f k) : mapG g t = mapG f t := by
  unfold mapG; congr 1; exact List.map_congr_left fun k hk => by rw [h k hk]
theorem markOf_set (zs : List Tm) (k : Int) : (markOf zs k = [126] ↔ ([126], k) ∈ zs) ∧ (markOf zs k = [61] ↔ ([126], k) ∉ zs ∧ ([61], k) ∈ zs) := by
  refine snocInd (P := fun zs => (markOf zs k = [126] ↔ ([126], k) ∈ zs) ∧ (markOf zs k = [61] ↔ ([126], k) ∉ zs ∧ ([61], k) ∈ zs)) ?_ ?_ zs
  · simp [markOf]
  intro zs z ih
  obtain ⟨z1, z2⟩ := z
  obtain ⟨h1, h2⟩ := ih
  rw [markOf_snoc]
  simp only [List.mem_append, List.mem_singleton, Prod.mk.injEq]
  by_cases c : markP z1 ∧ z2 = k ∧ markOf zs k ≠ [126]
  · rw [if_pos c]
    obtain ⟨c1, rfl, c3⟩ := c
    have hn : ([126], z2) ∉ zs := fun h => c3 (h1.2 h)
    rcases c1 with rfl | rfl
    · simp [hn]
    simp [hn]
  rw [if_neg c]
  constructor
  · rw [h1]
    constructor
    · exact fun h => .inl h
    rintro (h | ⟨rfl, rfl⟩)
    · exact h
    refine h1.1 (Classical.byContradiction fun h => c ⟨.inr rfl, rfl, h⟩)
  rw [h2]
  constructor
  · rintro ⟨a, b⟩
    refine ⟨fun h => h.elim a ?_, .inl b⟩
    rintro ⟨rfl, rfl⟩
    exact c ⟨.inr rfl, rfl, fun h => a (h1.1 h)⟩
  rintro ⟨a, b⟩
  refine ⟨fun h => a (.inl h), ?_⟩
  rcases b with b | ⟨rfl, rfl⟩
  · exact b
  exact absurd (h1.1 (Classical.byContradiction fun h => c ⟨.inl rfl, rfl, h⟩)) (fun h => a (.inl h))
theorem decl_mem {zs : List Tm} {z : Tm} (h : z ∈ zs) (hm : ¬ markP z.1) : z ∈ declsR zs := List.mem_filter.2 ⟨h, by simpa using hm⟩
theorem termsR_mark {m : Nat} {zs : List Tm} {z : Tm} (h : z ∈ termsR m zs) : markP z.1 := by
  have := (termsR_mem m zs z).1 h
  exact this.1 ▸ (markOf_is zs z.2).resolve_left (by rw [← this.1]; exact this.2.1)
theorem declsR_app (a b : List Tm) : declsR (a ++ b) = declsR a ++ declsR b := by unfold declsR; exact List.filter_append ..
theorem declsR_marks {zs : List Tm} (h : ∀ z ∈ zs, markP z.1) : declsR zs = [] := by
  unfold declsR
  rw [List.filter_eq_nil_iff]
  intro z hz
  simp [h z hz]
theorem terms_kids {m : Nat} {t : Ty} (hw : t.words.length = t.kids.length) (hk : ∀ k ∈ t.kids, 0 ≤ k ∧ k < m) : ∀ k : Int, k ∈ (termsT m t).kids ↔ k ∈ t.kids := by
  intro k
  have e : (termsT m t).kids = (declsR (zips t) ++ termsR m (zips t)).map (·.2) := rfl
  have hz : ∀ k, k ∈ t.kids ↔ ∃ w, (w, k) ∈ zips t := by
    intro k
    constructor
    · intro h
      obtain ⟨i, hi, rfl⟩ := List.getElem_of_mem h
      have hl : i < (zips t).length := by rw [zips_kids hw]; exact hi
      exact ⟨t.words[i]'Jb, by rw [← zips_get Jb hi hl]; exact List.getElem_mem hl⟩
    rintro ⟨w, h⟩; exact (List.of_mem_zip h).2
  rw [e, hz, List.mem_map]
  constructor
  · rintro ⟨⟨w, p⟩, hx, rfl⟩
    rcases List.mem_append.1 hx with hx | hx
    · exact ⟨w, (List.mem_filter.1 hx).1⟩
    have h1 := (termsR_mem m (zips t) (w, p)).1 hx
    obtain ⟨z, hz1, _, e2⟩ := markOf_kid (zips t) p (by rw [← h1.1]; exact h1.2.1)
    obtain ⟨w2, p2⟩ := z
    simp only at e2
    exact ⟨w2, e2 ▸ hz1⟩
  rintro ⟨w, h⟩
  by_cases hm : markP w
  · have hb := zips_in hk _ h
    have hne : markOf (zips t) k ≠ [] := by
      rcases hm with rfl | rfl
      · by_cases h2 : ([126], k) ∈ zips t
        · rw [(markOf_set (zips t) k).1.2 h2]; simp
        rw [(markOf_set (zips t) k).2.2 ⟨h2, h⟩]; simp
      rw [(markOf_set (zips t) k).1.2 h]; simp
    exact ⟨(markOf (zips t) k, k), List.mem_append_right _ ((termsR_mem m (zips t) _).2 ⟨rfl, hne, hb.1, hb.2⟩), rfl⟩
  exact ⟨(w, k), List.mem_append_left _ (decl_mem h hm), rfl⟩
end Go.Sy
namespace Go.Sy
open Go Go.Proofs
theorem markOf_none {zs : List Tm} {k : Int} (h : ∀ z ∈ zs, z.2 ≠ k) : markOf zs k = [] := by
  refine Classical.byContradiction fun hn => ?_
  obtain ⟨z, hz, _, e⟩ := markOf_kid zs k hn
  exact h z hz e
theorem termsR_more {m : Nat} {zs : List Tm} (hz : ∀ z ∈ zs, 0 ≤ z.2 ∧ z.2 < m) : ∀ d, termsR (m + d) zs = termsR m zs
  | 0 => rfl
  | d + 1 => by
    have e : termsR (m + (d + 1)) zs = termsR (m + d) zs ++ (if markOf zs ((m + d : Nat) : Int) = [] then [] else [(markOf zs ((m + d : Nat) : Int), ((m + d : Nat) : Int))]) := by
      unfold termsR
      rw [show m + (d + 1) = m + d + 1 by omega, List.range_succ, List.filterMap_append]
      generalize m + d = x
      congr 1
      by_cases h : markOf zs (x : Int) = []
      · simp [h]
      simp [h]
    rw [e, if_pos (markOf_none fun z hx e2 => by have := hz z hx; omega), List.append_nil, termsR_more hz d]
theorem norm_more {m m2 : Nat} {t : Ty} (hk : ∀ k ∈ t.kids, 0 ≤ k ∧ k < m) (h : m ≤ m2) : normT m2 t = normT m t := by
  unfold normT
  split
  · unfold termsT
    obtain ⟨d, rfl⟩ : ∃ d, m2 = m + d := ⟨m2 - m, by omega⟩
    rw [termsR_more (zips_in hk)]
  rfl
theorem norm_kind (m : Nat) (t : Ty) : (normT m t).kind = t.kind := by unfold normT; split <;> rfl
theorem mapG_kids {g : Int → Nat} {m : Nat} {t : Ty} (h : ∀ k ∈ t.kids, g k < m) : ∀ k ∈ (mapG g t).kids, 0 ≤ k ∧ k < m := by
  intro k hk
  obtain ⟨x, hx, rfl⟩ := List.mem_map.1 hk
  have := h x hx
  omega
theorem odd_pre {N M : List Ty} (h : N <+: M) {t : Ty} (hk : ∀ k ∈ t.kids, 0 ≤ k ∧ k < N.length) : oddP M t ↔ oddP N t := by
  have e : ∀ k : Int, 0 ≤ k → k < N.length → kindAt M k = kindAt N k := by
    obtain ⟨r, rfl⟩ := h
    intro k h0 h1
    unfold kindAt
    rw [List.getElem?_append_left Jb]
  unfold oddP
  constructor
  · rintro ⟨z, hz, hm, ho⟩
    have := zips_in hk z hz
    exact ⟨z, hz, hm, by rw [← e _ this.1 this.2]; exact ho⟩
  rintro ⟨z, hz, hm, ho⟩
  have := zips_in hk z hz
  exact ⟨z, hz, hm, by rw [e _ this.1 this.2]; exact ho⟩
theorem get_pre {N M : List Ty} (h : N <+: M) {p : Nat} (hp : p < N.length) : M[p]'(Nat.lt_of_lt_of_le hp h.length_le) = N[p] := by
  obtain ⟨r, rfl⟩ := h
  exact List.getElem_append_left hp
inductive SubS (N : List Ty) (args : List Int) : Nat → Nat → Prop where
  | stay {p : Nat} (hp : p < N.length) (h : askAt N p = 0) : SubS N args p p
  | param {p q : Nat} (hp : p < N.length) (h9 : N[p].kind = 9) (hq : args[N[p].n.toNat]? = some (q : Int)) : SubS N args p q
  | made {p q : Nat} (g : Int → Nat) (hp : p < N.length) (h9 : N[p].kind ≠ 9) (ha : askAt N p ≠ 0) (hg : ∀ k ∈ N[p].kids, SubS N args k.toNat (g k)) (ho : N[p].kind = 7 → ¬ oddP N (mapG g N[p])) (hq : q < N.length) (hN : N[q] = normT N.length (mapG g N[p])) : SubS N args p q
section
variable {N : List Ty} {args : List Int}
theorem SubS.lt (hgood : ∀ a ∈ args, 0 ≤ a ∧ a < N.length) {p q : Nat} (h : SubS N args p q) : q < N.length := by
  cases h with
  | stay hp _ => exact hp
  | param hp h9 hq =>
    have := hgood _ (List.mem_of_getElem? hq)
    omega
  | made g hp h9 ha hg ho hq hN => exact hq
theorem ask_pos {p : Nat} (hr : rightP N) (hp : p < N.length) (h9 : N[p].kind = 9) : askAt N p ≠ 0 := by
  have h1 := ask_param hr hp h9
  have h2 := ((GT hr hp).param h9).1
  omega
theorem SubS.inj (hr : rightP N) : ∀ p q q2, SubS N args p q → SubS N args p q2 → q = q2 := by
  intro p
  induction p using Nat.strongRecOn with
  | ind p ih =>
    intro q q2 h1 h2
    cases h1 with
    | stay hp h =>
      cases h2 with
      | stay _ _ => rfl
      | param _ h9 _ => exact absurd h (ask_pos hr hp h9)
      | made g _ h9 ha _ _ _ _ => exact absurd h ha
    | param hp h9 hq =>
      cases h2 with
      | stay _ h => exact absurd h (ask_pos hr hp h9)
      | param _ _ hq2 => rw [hq] at hq2; injection hq2 with e; omega
      | made g _ h92 _ _ _ _ _ => exact absurd h9 h92
    | made g hp h9 ha hg ho hq hN =>
      cases h2 with
      | stay _ h => exact absurd h ha
      | param _ h92 _ => exact absurd h92 h9
      | made f _ _ _ hf _ hq2 hN2 =>
        have e : mapG g N[p] = mapG f N[p] := mapG_congr fun k hk => by
          have hb := (GT hr hp).kids k hk
          exact ih k.toNat Jb _ _ (hg k hk) (hf k hk)
        exact right_inj hr hq hq2 (by rw [hN, hN2, e])
theorem SubS.mono {M : List Ty} (h : N <+: M) (hgood : ∀ a ∈ args, 0 ≤ a ∧ a < N.length) {p q : Nat} (hs : SubS N args p q) : SubS M args p q := by
  have hl := h.length_le
  induction hs with
  | stay hp h0 => exact .stay Jb (by rw [ask_pre h hp]; exact h0)
  | param hp h9 hq => exact .param Jb (by rw [get_pre h hp]; exact h9) (by rw [get_pre h hp]; exact hq)
  | @made p q g hp h9 ha hg ho hq hN ih =>
    have hk := mapG_kids (g := g) fun k hk => (hg k hk).lt hgood
    refine .made g Jb (by rw [get_pre h hp]; exact h9) (by rw [ask_pre h hp]; exact ha) (fun k hk => ?_) ?_ Jb ?_
    · rw [get_pre h hp] at hk; exact ih k hk
    · rw [get_pre h hp]
      intro h7
      rw [odd_pre h hk]
      exact ho h7
    rw [get_pre h hq, get_pre h hp, hN, norm_more hk hl]
theorem SubS.parts (hr : rightP N) {i : Nat} (hi : i < N.length) (h0 : ∃ q, SubS N args i q) : ∀ j, j ≤ i + 1 → ∀ p, (partsN N i j).getD p false = true → ∃ q, SubS N args p q
  | 0, _, p, h => by
    rw [partsN, set_getD] at h
    split at h
    · rename_i c; rw [← c.1]; exact h0
    rw [List.getD_eq_getElem?_getD, List.getElem?_replicate] at h
    split at h <;> simp at h
  | j + 1, hj, p, h => by
    rw [mkpart_get hr hi j Jb] at h
    rcases h with h | ⟨h1, k, hk, e⟩
    · exact SubS.parts hr hi h0 j Jb p h
    obtain ⟨q, hq⟩ := SubS.parts hr hi h0 j Jb _ h1
    have hb := kid_low hr hi (Nat.sub_le i j) hk
    rw [row_kid hi (Nat.sub_le i j)] at hk
    rw [← e]
    cases hq with
    | stay hp h =>
      have h3 := ask_kid hr hp hk
      have h4 := ask_nonneg hr (show k.toNat < N.length by omega)
      exact ⟨_, .stay Jb Jb⟩
    | param hp h9 _ => rw [((GT hr hp).param h9).2.2] at hk; simp at hk
    | made g hp _ _ hg _ _ _ => exact ⟨_, hg k hk⟩
end
theorem mapK_G {ins : List Int} {t : Ty} (h : ∀ k ∈ t.kids, 0 ≤ ins.getD k.toNat 0) : mapK ins t = mapG (fun k => (ins.getD k.toNat 0).toNat) t := by
  unfold mapK mapG
  congr 1
  exact List.map_congr_left fun k hk => by have := h k hk; simp only; omega
theorem add_at {l : List Ty} {t : Ty} {m : List Ty} {i e : Int} (h : AddP l t m i e) (he : e = 0) : ∃ q : Nat, ∃ hq : q < m.length, i = (q : Int) ∧ m[q] = t := by
  rcases h with ⟨q, hq, h1, h2, h3, h4⟩ | ⟨n, ⟨_, h2, _, h4⟩ | ⟨_, _, h2, _, h4⟩ | ⟨hm, hl, h2, h3, h4⟩⟩
  · subst h2; exact ⟨q, hq, h3, h1⟩
  · omega
  · omega
  subst h2; exact ⟨l.length, by simp, h3, by simp⟩
theorem add_has (l : List Ty) (t : Ty) : ∃ m i e, AddP l t m i e := by
  by_cases h : t ∈ l
  · obtain ⟨q, hq, e⟩ := List.getElem_of_mem h
    exact ⟨l, q, 0, .inl ⟨q, hq, e, rfl, rfl, rfl⟩⟩
  by_cases h2 : madeP l t
  · by_cases h3 : l.length = 400
    · exact ⟨[], 0, 7, .inr ⟨h, .inr (.inl ⟨h2, h3, rfl, rfl, rfl⟩)⟩⟩
    exact ⟨l ++ [t], l.length, 0, .inr ⟨h, .inr (.inr ⟨h2, h3, rfl, rfl, rfl⟩)⟩⟩
  exact ⟨[], 0, 1, .inr ⟨h, .inl ⟨h2, rfl, rfl, rfl⟩⟩⟩
theorem put_ok {out : List Ty} {ins : List Int} {t : Ty} (hr : rightP out) {o : List Ty} {ins2 : List Int} (h : putS out ins t = .ok (o, ins2)) : (t.kind = 7 → ¬ oddP out t) ∧ ∃ q : Nat, ∃ hq : q < o.length, rightP o ∧ out <+: o ∧ ins2 = ins ++ [(q : Int)] ∧ o[q] = normT out.length t := by
  by_cases h7 : t.kind = 7
  · by_cases ho : oddP out t
    · rw [put_odd h7 ho] at h; cases h
    obtain ⟨m, i, e, hP⟩ := add_has out (termsT out.length t)
    rw [put_iface hr h7 ho hP] at h
    split at h
    · rename_i he
      obtain ⟨h1, h2, _, _⟩ := add_pre hr hP he
      obtain ⟨q, hq, rfl, e2⟩ := add_at hP he
      injection h with h; injection h with h h'
      subst h h'
      exact ⟨fun _ => ho, q, hq, h1, h2, rfl, by unfold normT; rw [if_pos h7]; exact e2⟩
    cases h
  obtain ⟨m, i, e, hP⟩ := add_has out t
  rw [put_plain hr h7 hP] at h
  split at h
  · rename_i he
    obtain ⟨h1, h2, _, _⟩ := add_pre hr hP he
    obtain ⟨q, hq, rfl, e2⟩ := add_at hP he
    injection h with h; injection h with h h'
    subst h h'
    exact ⟨fun h => absurd h h7, q, hq, h1, h2, rfl, by unfold normT; rw [if_neg h7]; exact e2⟩
  cases h
theorem put_found {out : List Ty} {ins : List Int} {t : Ty} (hr : rightP out) (ho : t.kind = 7 → ¬ oddP out t) {q : Nat} (hq : q < out.length) (h : out[q] = normT out.length t) : putS out ins t = .ok (out, ins ++ [(q : Int)]) := by
  by_cases h7 : t.kind = 7
  · have hP : AddP out (termsT out.length t) out (q : Int) 0 := .inl ⟨q, hq, by rw [h]; unfold normT; rw [if_pos h7], rfl, rfl, rfl⟩
    rw [put_iface hr h7 (ho h7) hP, if_pos rfl]
  have hP : AddP out t out (q : Int) 0 := .inl ⟨q, hq, by rw [h]; unfold normT; rw [if_neg h7], rfl, rfl, rfl⟩
  rw [put_plain hr h7 hP, if_pos rfl]
section
variable {l : List Ty} {args : List Int} {i : Nat}
theorem sub_sound (hr : rightP l) (hi : i < l.length) (hgood : ∀ a ∈ args, 0 ≤ a ∧ a < l.length) (hlen : (asksL (l.take (i + 1))).getD i 0 ≤ args.length) : ∀ q, q ≤ i + 1 → ∀ out ins, subN l args (asksL (l.take (i + 1))) (partsL l i) q = .ok (out, ins) →
    SubOk l q out ins ∧ ∀ p, p < q → (partsL l i).getD p false = true → SubS out args p (ins.getD p 0).toNat
  | 0, _, out, ins, h => by
    injection h with h; injection h with h h'
    subst h h'
    exact ⟨⟨hr, List.prefix_rfl, rfl, fun p hp => absurd hp Jb⟩, fun p hp => absurd hp Jb⟩
  | q + 1, hq, out2, ins2, h => by
    rw [subN] at h
    cases hs : subN l args (asksL (l.take (i + 1))) (partsL l i) q with
    | error e => rw [hs] at h; cases h
    | ok x =>
      obtain ⟨out, ins⟩ := x
      rw [hs] at h
      simp only at h
      obtain ⟨hso, hS⟩ := sub_sound hr hi hgood hlen q Jb out ins hs
      have hql : q < l.length := by omega
      have hol := hso.pre.length_le
      have hil := hso.len
      have hrt := GT hr hql
      have hgo : ∀ a ∈ args, 0 ≤ a ∧ a < out.length := fun a ha => by have := hgood a ha; omega
      have hlast : ∀ x : Int, (ins ++ [x]).getD q 0 = x := fun x => by rw [← hil]; simp [List.getD_eq_getElem?_getD]
      have hold : ∀ (x : Int) p, p < q → (ins ++ [x]).getD p 0 = ins.getD p 0 := fun x p hp => getD_app _ _ _ Jb
      have hq2 : q < out.length := by omega
      have hoq : out[q] = l[q] := get_pre hso.pre hql
      unfold stepS at h
      by_cases c : (partsL l i).getD q false = false ∨ (asksL (l.take (i + 1))).getD q 0 = 0
      · rw [if_pos c] at h
        injection h with h; injection h with h h'
        subst h h'
        refine ⟨hso.step hso.right List.prefix_rfl Jb, fun p hp hM => ?_⟩
        by_cases e : p = q
        · subst e
          rw [hlast]
          have h0 : askAt out p = 0 := by rw [ask_pre hso.pre hql, ← ask_in hi Jb]; exact c.resolve_left (by rw [hM]; simp)
          exact .stay hq2 h0
        rw [hold _ _ Jb]; exact hS p Jb hM
      rw [if_neg c] at h
      have hM1 : (partsL l i).getD q false = true := by
        cases hx : (partsL l i).getD q false
        · exact absurd (.inl hx) c
        rfl
      rw [GK _ hql] at h
      by_cases h9 : l[q].kind = 9
      · rw [if_pos h9] at h
        injection h with h; injection h with h h'
        subst h h'
        have hp9 := hrt.param h9
        have hask := (parts_ask hr hi (i + 1) (Nat.le_refl _) hM1).2
        have hA9 : (asksL (l.take (i + 1))).getD q 0 = l[q].n + 1 := by rw [ask_in hi Jb]; exact ask_param hr hql h9
        have hna : l[q].n.toNat < args.length := by omega
        have hga := GK (0 : Int) hna
        have hgr := hgood _ (List.getElem_mem hna)
        refine ⟨hso.step hso.right List.prefix_rfl (by rw [hga]; omega), fun p hp hM => ?_⟩
        by_cases e : p = q
        · subst e
          rw [hlast, hga]
          refine .param hq2 (by rw [hoq]; exact h9) ?_
          rw [hoq, List.getElem?_eq_getElem hna]
          congr 1; omega
        rw [hold _ _ Jb]; exact hS p Jb hM
      rw [if_neg h9] at h
      obtain ⟨ho, q2, hq2l, hr2, hp2, rfl, hN⟩ := put_ok hso.right h
      have hkids : ∀ k ∈ l[q].kids, 0 ≤ ins.getD k.toNat 0 ∧ ins.getD k.toNat 0 < out.length := fun k hk => by
        have := hrt.kids k hk
        exact hso.ins k.toNat Jb
      refine ⟨hso.step hr2 hp2 Jb, fun p hp hM => ?_⟩
      by_cases e : p = q
      · subst e
        rw [hlast]
        have hol2 := hp2.length_le
        have hpre := hso.pre.trans hp2
        have ho2 : out2[p]'Jb = l[p] := get_pre hpre hql
        have hm := mapK_G fun k hk => (hkids k hk).1
        have hmk : ∀ k ∈ (mapK ins l[p]).kids, 0 ≤ k ∧ k < out.length := mapK_kids hso.ins hrt.kids
        refine .made (fun k => (ins.getD k.toNat 0).toNat) Jb (by rw [ho2]; exact h9) ?_ (fun k hk => ?_) ?_ Jb ?_
        · rw [ask_pre hpre hql, ← ask_in hi Jb]; exact fun h0 => c (.inr h0)
        · rw [ho2] at hk
          have := hrt.kids k hk
          exact (hS k.toNat Jb (parts_kid hr hi Jb hM1 hk)).mono hp2 hgo
        · rw [ho2, ← hm]
          intro h7
          rw [odd_pre hp2 hmk]
          exact ho h7
        have e3 : (((q2 : Nat) : Int)).toNat = q2 := by omega
        simp only [e3]
        rw [ho2, ← hm, hN, norm_more hmk hol2]
      rw [hold _ _ Jb]
      exact (hS p Jb hM).mono hp2 hgo
theorem sub_complete (hr : rightP l) (hi : i < l.length) (hall : ∀ p, (partsL l i).getD p false = true → ∃ q, SubS l args p q) (hgood : ∀ a ∈ args, 0 ≤ a ∧ a < l.length) : ∀ q, q ≤ i + 1 → ∃ ins, subN l args (asksL (l.take (i + 1))) (partsL l i) q = .ok (l, ins) ∧ ins.length = q ∧ ∀ p, p < q → (partsL l i).getD p false = true → ∃ x : Nat, ins.getD p 0 = (x : Int) ∧ SubS l args p x
  | 0, _ => ⟨[], rfl, rfl, fun p hp => absurd hp Jb⟩
  | q + 1, hq => by
    obtain ⟨ins, hs, hil, hS⟩ := sub_complete hr hi hall hgood q Jb
    have hql : q < l.length := by omega
    have hrt := GT hr hql
    have hlast : ∀ x : Int, (ins ++ [x]).getD q 0 = x := fun x => by rw [← hil]; simp [List.getD_eq_getElem?_getD]
    have hold : ∀ (x : Int) p, p < q → (ins ++ [x]).getD p 0 = ins.getD p 0 := fun x p hp => getD_app _ _ _ Jb
    have fin : ∀ x : Nat, subN l args (asksL (l.take (i + 1))) (partsL l i) (q + 1) = .ok (l, ins ++ [(x : Int)]) → ((partsL l i).getD q false = true → SubS l args q x) → ∃ ins, subN l args (asksL (l.take (i + 1))) (partsL l i) (q + 1) = .ok (l, ins) ∧ ins.length = q + 1 ∧ ∀ p, p < q + 1 → (partsL l i).getD p false = true → ∃ x : Nat, ins.getD p 0 = (x : Int) ∧ SubS l args p x := by
      intro x h1 h2
      refine ⟨_, h1, by rw [List.length_append, hil]; rfl, fun p hp hM => ?_⟩
      by_cases e : p = q
      · subst e; exact ⟨x, hlast _, h2 hM⟩
      rw [hold _ _ Jb]; exact hS p Jb hM
    by_cases c : (partsL l i).getD q false = false ∨ (asksL (l.take (i + 1))).getD q 0 = 0
    · refine fin q (sub_out hs c) fun hM => .stay hql ?_
      rw [← ask_in hi Jb]; exact c.resolve_left (by rw [hM]; simp)
    have hM1 : (partsL l i).getD q false = true := by
      cases hx : (partsL l i).getD q false
      · exact absurd (.inl hx) c
      rfl
    have hA : (asksL (l.take (i + 1))).getD q 0 ≠ 0 := fun h => c (.inr h)
    obtain ⟨x, hx⟩ := hall q hM1
    cases hx with
    | stay _ h => rw [← ask_in hi Jb] at h; exact absurd h hA
    | param _ h9 hq2 =>
      have e : args.getD l[q].n.toNat 0 = (x : Int) := by rw [List.getD_eq_getElem?_getD, hq2]; rfl
      have h1 := sub_param hs hM1 hA hql h9
      rw [e] at h1
      exact fin x h1 fun _ => .param hql h9 hq2
    | made g _ h9 ha hg ho hx2 hN =>
      have hk : ∀ k ∈ l[q].kids, ins.getD k.toNat 0 = ((g k : Nat) : Int) := fun k hk => by
        have hb := hrt.kids k hk
        obtain ⟨y, hy, hyS⟩ := hS k.toNat Jb (parts_kid hr hi Jb hM1 hk)
        rw [hy, SubS.inj hr _ _ _ hyS (hg k hk)]
      have hm : mapK ins l[q] = mapG g l[q] := by
        unfold mapK mapG; congr 1; exact List.map_congr_left hk
      have h1 := sub_put hs hM1 hA hql h9
      rw [hm, put_found hr (by exact ho) hx2 hN] at h1
      exact fin x h1 fun _ => .made g hql h9 ha hg ho hx2 hN
end
end Go.Sy
namespace Go.Sy
open Go Go.Proofs
section
variable {N : List Ty} {args others both : List Int}
end
theorem good_args {l : List Ty} {i : Nat} {args : List Int} (h : ¬ badArgs l i args) : (∀ a ∈ args, 0 ≤ a ∧ a < l.length) ∧ (asksL (l.take (i + 1))).getD i 0 ≤ args.length := by
  refine ⟨fun a ha => Classical.byContradiction fun hn => h (.inr ⟨a, ha, hn⟩), ?_⟩
  have : ¬ ((args.length : Int) < (asksL (l.take (i + 1))).getD i 0) := fun hn => h (.inl hn)
  omega
theorem subR_sound {l : List Ty} {i : Nat} {args : List Int} (hr : rightP l) (hi : i < l.length) {o : List Ty} {q : Int} (h : subR l i args = .ok (o, q)) : ¬ badArgs l i args ∧ rightP o ∧ l <+: o ∧ 0 ≤ q ∧ q < o.length ∧ SubS o args i q.toNat := by
  by_cases hb : badArgs l i args
  · rw [subR_bad hb] at h; cases h
  obtain ⟨hgood, hlen⟩ := good_args hb
  cases hs : subN l args (asksL (l.take (i + 1))) (partsL l i) (i + 1) with
  | error e => rw [HT hb (Nat.le_refl _) hs] at h; cases h
  | ok x =>
    obtain ⟨out, ins⟩ := x
    rw [subR_ok hb hs] at h
    injection h with h; injection h with h h'
    subst h h'
    obtain ⟨hso, hS⟩ := sub_sound hr hi hgood hlen (i + 1) (Nat.le_refl _) out ins hs
    have := hso.ins i Jb
    exact ⟨hb, hso.right, hso.pre, this.1, this.2, hS i Jb (parts_self hr hi)⟩
theorem subR_found {N : List Ty} {i q : Nat} {args : List Int} (hr : rightP N) (hi : i < N.length) (hb : ¬ badArgs N i args) (hS : SubS N args i q) : subR N i args = .ok (N, (q : Int)) := by
  obtain ⟨hgood, hlen⟩ := good_args hb
  obtain ⟨ins, hs, _, hall⟩ := sub_complete hr hi (fun p hM => SubS.parts hr hi ⟨q, hS⟩ (i + 1) (Nat.le_refl _) p hM) hgood (i + 1) (Nat.le_refl _)
  obtain ⟨x, hx, hxS⟩ := hall i Jb (parts_self hr hi)
  rw [subR_ok hb hs, hx, SubS.inj hr _ _ _ hxS hS]
theorem subR_zero {l : List Ty} {i : Nat} (hr : rightP l) (hi : i < l.length) (h : (asksL (l.take (i + 1))).getD i 0 = 0) : subR l i [] = .ok (l, (i : Int)) := by
  refine subR_found hr hi (not_bad (by simp) (by rw [h]; simp)) (.stay hi ?_)
  rw [← ask_in hi (Nat.le_refl i)]; exact h
def paramN (k : Int) : Ty := ⟨9, [], k, [], []⟩
theorem last_app {α : Type} (ds ms : List α) (h : ms ≠ []) : (ds ++ ms).getLast? = ms.getLast? := by
  rw [List.getLast?_append, List.getLast?_eq_some_getLast h]; rfl
theorem elems_parts {l : List Ty} {t : Ty} (h : elemsP l t) : ∃ ds ms : List Tm, zips t = ds ++ ms ∧ (∀ z ∈ ds, ¬ markP z.1) ∧ (∀ z ∈ ms, markP z.1) ∧ ms.Pairwise fun x y => x.2 < y.2 := by
  obtain ⟨hl, _, _, hall⟩ := h
  have hzl := zips_kids hl
  have key : ∀ q, q ≤ (zips t).length → ∃ ds ms : List Tm, (zips t).take q = ds ++ ms ∧ (∀ z ∈ ds, ¬ markP z.1) ∧ (∀ z ∈ ms, markP z.1) ∧ ms.Pairwise fun x y => x.2 < y.2 := by
    intro q
    induction q with
    | zero => intro _; exact ⟨[], [], by simp, by simp, by simp, .nil⟩
    | succ q ih =>
      intro hq
      obtain ⟨ds, ms, e, h1, h2, h3⟩ := ih Jb
      have hqw : q < t.words.length := by omega
      have hqk : q < t.kids.length := by omega
      have hqz : q < (zips t).length := by omega
      have hz := zips_get hqw hqk hqz
      have hlast : 0 < q → ∃ hq1 : q - 1 < (zips t).length, (ds ++ ms).getLast? = some (zips t)[q - 1] := by
        intro h0
        refine ⟨by omega, ?_⟩
        rw [← e, List.getLast?_take]
        rw [if_neg Jb, List.getElem?_eq_getElem Jb]; rfl
      rw [List.take_succ_eq_append_getElem hqz, e]
      have hprev : ∀ hq1 : q - 1 < (zips t).length, 0 < q → (zips t)[q - 1] = (t.words.getD (q - 1) [], kidAt t (q - 1)) := by
        intro hq1 h0
        rw [zips_get (show q - 1 < t.words.length by omega) (show q - 1 < t.kids.length by omega) hq1, GK _ (show q - 1 < t.words.length by omega), kid_get (show q - 1 < t.kids.length by omega)]
      rcases hall q hqw with ⟨hm, _, _, _, _, hp⟩ | ⟨hm, _, _, hp⟩
      · refine ⟨ds, ms ++ [(zips t)[q]], by rw [List.append_assoc], h1, fun z hx => ?_, ?_⟩
        · rcases List.mem_append.1 hx with hx | hx
          · exact h2 z hx
          have : z = (zips t)[q] := by simpa using hx
          rw [this, hz]; exact hm
        refine List.pairwise_append.2 ⟨h3, by simp, fun x hx y hy => ?_⟩
        have : y = (zips t)[q] := by simpa using hy
        subst this
        have h0 : 0 < q := by
          rcases Nat.eq_zero_or_pos q with c | c
          · subst c
            have hen : ds ++ ms = [] := by rw [← e]; simp
            rw [(List.append_eq_nil_iff.1 hen).2] at hx; cases hx
          exact c
        obtain ⟨hq1, hg⟩ := hlast h0
        have hne : ms ≠ [] := fun c => by rw [c] at hx; cases hx
        rw [last_app _ _ hne] at hg
        have hgl : ms.getLast? = some (ms.getLast hne) := List.getLast?_eq_some_getLast hne
        rw [hgl] at hg
        have e5 : ms.getLast hne = (zips t)[q - 1] := Option.some.inj hg
        have hmk : markP (t.words.getD (q - 1) []) := by
          have := h2 _ (List.getLast_mem hne)
          rw [e5, hprev hq1 h0] at this; exact this
        have hlt := hp h0 hmk
        have hle : x.2 ≤ ((zips t)[q - 1]).2 := by
          rw [← e5]
          rcases List.eq_nil_or_concat ms with c | ⟨ms', y', c⟩
          · exact absurd c hne
          rw [List.concat_eq_append] at c
          subst c
          have hgy : (ms' ++ [y']).getLast hne = y' := by simp
          rw [hgy]
          rcases List.mem_append.1 hx with hx | hx
          · have := (List.pairwise_append.1 h3).2.2 x hx y' (by simp)
            omega
          have : x = y' := by simpa using hx
          rw [this]; exact Int.le_refl _
        rw [hprev hq1 h0] at hle
        rw [hz]
        have hle2 : x.2 ≤ kidAt t (q - 1) := hle
        rw [kid_get hqk] at hlt
        show x.2 < t.kids[q]
        omega
      have hms : ms = [] := by
        refine Classical.byContradiction fun hne => ?_
        have h0 : 0 < q := by
          rcases Nat.eq_zero_or_pos q with c | c
          · subst c
            have hen : ds ++ ms = [] := by rw [← e]; simp
            exact absurd (List.append_eq_nil_iff.1 hen).2 hne
          exact c
        obtain ⟨hq1, hg⟩ := hlast h0
        rw [last_app _ _ hne, List.getLast?_eq_some_getLast hne] at hg
        have e5 : ms.getLast hne = (zips t)[q - 1] := Option.some.inj hg
        have := h2 _ (List.getLast_mem hne)
        rw [e5, hprev hq1 h0] at this
        exact (hp h0).1 this
      subst hms
      refine ⟨ds ++ [(zips t)[q]], [], by simp, fun z hx => ?_, by simp, .nil⟩
      rcases List.mem_append.1 hx with hx | hx
      · exact h1 z hx
      have : z = (zips t)[q] := by simpa using hx
      rw [this, hz]; exact hm
  obtain ⟨ds, ms, e, h⟩ := key (zips t).length (Nat.le_refl _)
  rw [List.take_length] at e
  exact ⟨ds, ms, e, h⟩
end Go.Sy
namespace Go.Sy
open Go Go.Proofs
structure Mth where
  name : List UInt8
  ptr : Bool
  sig : Int
deriving DecidableEq
structure Nmd where
  name : List UInt8
  bounds : List Int
  under : Int
  methods : List Mth
deriving DecidableEq
instance : Inhabited Mth := ⟨⟨[], false, 0⟩⟩
instance : Inhabited Nmd := ⟨⟨[], [], 0, []⟩⟩
abbrev eMt (m : Mth) : List D := [.val (S m.name), .val (.bool m.ptr), .val (.int .i64 m.sig)]
abbrev eNm (n : Nmd) : List D := [.val (S n.name), .slc 1 (n.bounds.map eI), .val (.int .i64 n.under), .slc 3 (n.methods.map eMt)]
abbrev vNm (n : Nmd) (a1 : Option Addr) (k1 c1 : Nat) (a2 : Option Addr) (k2 c2 : Nat) : Value := .agg #[S n.name, .slice a1 k1 c1, .int .i64 n.under, .slice a2 k2 c2]
abbrev fBd (n : Nmd) (a : Option Addr) (k c : Nat) : Fact := .slc (.slice a k c) 1 (n.bounds.map eI)
abbrev fMs (l : List Mth) (a : Option Addr) (k c : Nat) : Fact := .slc (.slice a k c) 3 (l.map eMt)
abbrev fN (l : List Nmd) (a : Option Addr) (k c : Nat) : Fact := .slc (.slice a k c) 4 (l.map eNm)
def isK (T : List Ty) (i k : Int) : Prop := 0 ≤ i ∧ i < T.length ∧ kindAt T i = k
def fewA (T : List Ty) (i most : Int) : Prop := 0 ≤ i ∧ i < T.length ∧ askAt T i.toNat ≤ most
def boundsP (T : List Ty) (n : Nmd) : Prop := n.bounds.length ≤ 16 ∧ ∀ b ∈ n.bounds, isK T b 7 ∧ fewA T b n.bounds.length
def underP (T : List Ty) (n : Nmd) : Prop := fewA T n.under n.bounds.length ∧ ¬ isK T n.under 8 ∧ ¬ isK T n.under 9 ∧ ¬(14 ≤ n.under ∧ n.under ≤ 19)
def methodP (T : List Ty) (n : Nmd) (i : Nat) (hi : i < n.methods.length) : Prop :=
  isName n.methods[i].name = true ∧ isK T n.methods[i].sig 5 ∧ fewA T n.methods[i].sig n.bounds.length ∧ (0 < i → Op.bytesLess (n.methods.getD (i - 1) default).name n.methods[i].name = true)
def methodsP (T : List Ty) (n : Nmd) : Prop :=
  n.methods.length ≤ 16 ∧ (∀ i (hi : i < n.methods.length), methodP T n i hi) ∧ (n.methods ≠ [] → ¬ isK T n.under 7 ∧ ¬ isK T n.under 1)
def namedU (T : List Ty) (n : Nmd) : Prop := namedP n.name ∧ boundsP T n ∧ underP T n ∧ methodsP T n
def atN (N : List Nmd) (s : List UInt8) : Option Nat := N.findIdx? (·.name == s)
def fitsU (N : List Nmd) (t : Ty) : Prop := t.kind = 8 → ∃ i, atN N t.name = some i ∧ (N.getD i default).bounds.length = t.kids.length
def nameAt (T : List Ty) (N : List Nmd) (i : Nat) (hi : i < N.length) : Prop := namedU T N[i] ∧ (0 < i → Op.bytesLess (N.getD (i - 1) default).name N[i].name = true)
def rightU (T : List Ty) (N : List Nmd) : Prop := rightP T ∧ N.length ≤ 60 ∧ (∀ i (hi : i < N.length), nameAt T N i hi) ∧ ∀ t ∈ T, fitsU N t
theorem atN_some {N : List Nmd} {s : List UInt8} {i : Nat} (h : atN N s = some i) : ∃ hi : i < N.length, N[i].name = s := by
  obtain ⟨hi, h1, _⟩ := List.findIdx?_eq_some_iff_getElem.1 h
  exact ⟨hi, by simpa using h1⟩
theorem atN_first {N : List Nmd} {s : List UInt8} {q : Nat} (hq : q < N.length) (h : N[q].name = s) (hn : ∀ j (hj : j < N.length), j < q → N[j].name ≠ s) : atN N s = some q := by
  unfold atN
  rw [List.findIdx?_eq_some_iff_getElem]
  exact ⟨hq, by simp [h], fun j hj => by have := hn j Jb hj; simp [this]⟩
theorem atN_no {N : List Nmd} {s : List UInt8} (hn : ∀ j (hj : j < N.length), N[j].name ≠ s) : atN N s = none := by
  unfold atN
  rw [List.findIdx?_eq_none_iff]
  intro x hx
  obtain ⟨j, hj, rfl⟩ := List.getElem_of_mem hx
  simp [hn j hj]
end Go.Sy
