/- A version read off a text. -/
import Derived.Test.YtnbpkaffomklpaaGreatDoorSem6
namespace Go.Sy
open Go Go.Proofs Go.RowKit

def longS (s : List UInt8) : Bool := decide (40 < s.length)
/-- What is behind the parting. -/
def parseT (pr bl : List (List UInt8)) (l : List (List UInt8)) : Ver × Int :=
  if l.length ≠ 3 then (relV 0 0 0, 5)
  else if l.any (fun x => !numberS x) = true then (relV 0 0 0, 5)
  else if 8 < pr.length then (relV 0 0 0, 7) else if 8 < bl.length then (relV 0 0 0, 7)
  else if pr.any longS = true then (relV 0 0 0, 7) else if bl.any longS = true then (relV 0 0 0, 7)
  else if l.any greatS = true then (relV 0 0 0, 2) else if pr.any greatS = true then (relV 0 0 0, 2)
  else (⟨valS (l.getD 0 []), valS (l.getD 1 []), valS (l.getD 2 []), pr, bl⟩, 0)
def parseS (s : List UInt8) : Ver × Int :=
  if (cutD 43 s).2.2 = true then
    if (splitD 46 (cutD 43 s).2.1).any (oddW false) = true then (relV 0 0 0, 5)
    else if (cutD 45 (cutD 43 s).1).2.2 = true then
      if (splitD 46 (cutD 45 (cutD 43 s).1).2.1).any (oddW true) = true then (relV 0 0 0, 5)
      else parseT (splitD 46 (cutD 45 (cutD 43 s).1).2.1) (splitD 46 (cutD 43 s).2.1) (splitD 46 (cutD 45 (cutD 43 s).1).1)
    else parseT [] (splitD 46 (cutD 43 s).2.1) (splitD 46 (cutD 45 (cutD 43 s).1).1)
  else if (cutD 45 (cutD 43 s).1).2.2 = true then
    if (splitD 46 (cutD 45 (cutD 43 s).1).2.1).any (oddW true) = true then (relV 0 0 0, 5)
    else parseT (splitD 46 (cutD 45 (cutD 43 s).1).2.1) [] (splitD 46 (cutD 45 (cutD 43 s).1).1)
  else parseT [] [] (splitD 46 (cutD 45 (cutD 43 s).1).1)

/-- The version's cells, as its numbers come to be. -/
def vc (l : List (List UInt8)) (p1 p2 : Value) : Nat → List Value
  | 0 => [.int .i64 0, .int .i64 0, .int .i64 0, p1, p2]
  | 1 => [.int .i64 (valS (l.getD 0 []) : Int), .int .i64 0, .int .i64 0, p1, p2]
  | 2 => [.int .i64 (valS (l.getD 0 []) : Int), .int .i64 (valS (l.getD 1 []) : Int), .int .i64 0, p1, p2]
  | _ + 3 => [.int .i64 (valS (l.getD 0 []) : Int), .int .i64 (valS (l.getD 1 []) : Int), .int .i64 (valS (l.getD 2 []) : Int), p1, p2]
abbrev eP (b : Nat) (j : Nat) : List D := [.val (.pointer (some ⟨b, j, none⟩))]
theorem vc_step {l : List (List UInt8)} {p1 p2 : Value} {q : Nat} (hq : q < l.length) (hl : l.length = 3) (hq3 : q < [0, 1, 2].length) : (vc l p1 p2 q).set ([0, 1, 2][q]) (.int .i64 (valS l[q] : Int)) = vc l p1 p2 (q + 1) := by
  match l, hl with
  | [x, y, z], _ =>
    rcases (by simp at hq; omega : q = 0 ∨ q = 1 ∨ q = 2) with rfl | rfl | rfl <;> simp [vc]
theorem vc_blt {l : List (List UInt8)} {p1 p2 : Value} {q : Nat} (hq3 : q < [0, 1, 2].length) : Nat.blt ([0, 1, 2][q]) (vc l p1 p2 q).length = true := by
  rcases (by simp at hq3; omega : q = 0 ∨ q = 1 ∨ q = 2) with rfl | rfl | rfl <;> rfl
abbrev parseSL (b4 b2 : Nat) (l : List (List UInt8)) (p1 p2 : Value) (t : TypeId) (cs2 : Array Value) (L : List Res) : Nat → List Res := fun q => Res.nix :: Res.cells b4 (vc l p1 p2 q).toArray t :: Res.cells b2 cs2 t :: L

section
variable {s : List UInt8} {pr bl l : List (List UInt8)}
theorem parse_ff (h1 : (cutD 43 s).2.2 = false) (h2 : (cutD 45 (cutD 43 s).1).2.2 = false) : parseS s = parseT [] [] (splitD 46 (cutD 45 (cutD 43 s).1).1) := by
  simp [parseS, h1, h2]
theorem parse_ft (h1 : (cutD 43 s).2.2 = false) (h2 : (cutD 45 (cutD 43 s).1).2.2 = true) (h3 : (splitD 46 (cutD 45 (cutD 43 s).1).2.1).any (oddW true) = false) : parseS s = parseT (splitD 46 (cutD 45 (cutD 43 s).1).2.1) [] (splitD 46 (cutD 45 (cutD 43 s).1).1) := by
  unfold parseS; rw [h1, h2, h3]; rfl
theorem parse_fx (h1 : (cutD 43 s).2.2 = false) (h2 : (cutD 45 (cutD 43 s).1).2.2 = true) (h3 : (splitD 46 (cutD 45 (cutD 43 s).1).2.1).any (oddW true) = true) : parseS s = (relV 0 0 0, 5) := by
  unfold parseS; rw [h1, h2, h3]; rfl
theorem parse_x (h1 : (cutD 43 s).2.2 = true) (h2 : (splitD 46 (cutD 43 s).2.1).any (oddW false) = true) : parseS s = (relV 0 0 0, 5) := by
  unfold parseS; rw [h1, h2]; rfl
theorem parse_tf (h1 : (cutD 43 s).2.2 = true) (h0 : (splitD 46 (cutD 43 s).2.1).any (oddW false) = false) (h2 : (cutD 45 (cutD 43 s).1).2.2 = false) : parseS s = parseT [] (splitD 46 (cutD 43 s).2.1) (splitD 46 (cutD 45 (cutD 43 s).1).1) := by
  unfold parseS; rw [h1, h0, h2]; rfl
theorem parse_tt (h1 : (cutD 43 s).2.2 = true) (h0 : (splitD 46 (cutD 43 s).2.1).any (oddW false) = false) (h2 : (cutD 45 (cutD 43 s).1).2.2 = true) (h3 : (splitD 46 (cutD 45 (cutD 43 s).1).2.1).any (oddW true) = false) : parseS s = parseT (splitD 46 (cutD 45 (cutD 43 s).1).2.1) (splitD 46 (cutD 43 s).2.1) (splitD 46 (cutD 45 (cutD 43 s).1).1) := by
  unfold parseS; rw [h1, h0, h2, h3]; rfl
theorem parse_tx (h1 : (cutD 43 s).2.2 = true) (h0 : (splitD 46 (cutD 43 s).2.1).any (oddW false) = false) (h2 : (cutD 45 (cutD 43 s).1).2.2 = true) (h3 : (splitD 46 (cutD 45 (cutD 43 s).1).2.1).any (oddW true) = true) : parseS s = (relV 0 0 0, 5) := by
  unfold parseS; rw [h1, h0, h2, h3]; rfl
theorem pT1 (a : (l.length : Int) ≠ 3) : parseT pr bl l = (relV 0 0 0, 5) := by rw [parseT, if_pos (by omega)]
theorem pT2 (a : (l.length : Int) = 3) (b : l.any (fun x => !numberS x) = true) : parseT pr bl l = (relV 0 0 0, 5) := by rw [parseT, if_neg (by omega), if_pos b]
theorem nb {x : Bool} (h : x = false) : ¬ x = true := by simp [h]
theorem pT3 (a : (l.length : Int) = 3) (b : l.any (fun x => !numberS x) = false) (c : (pr.length : Int) > 8) : parseT pr bl l = (relV 0 0 0, 7) := by rw [parseT, if_neg (by omega), if_neg (nb b), if_pos (by omega)]
theorem pT4 (a : (l.length : Int) = 3) (b : l.any (fun x => !numberS x) = false) (c : (pr.length : Int) ≤ 8) (d : (bl.length : Int) > 8) : parseT pr bl l = (relV 0 0 0, 7) := by rw [parseT, if_neg (by omega), if_neg (nb b), if_neg (by omega), if_pos (by omega)]
theorem pT5 (a : (l.length : Int) = 3) (b : l.any (fun x => !numberS x) = false) (c : (pr.length : Int) ≤ 8) (d : (bl.length : Int) ≤ 8) (e : pr.any longS = true) : parseT pr bl l = (relV 0 0 0, 7) := by rw [parseT, if_neg (by omega), if_neg (nb b), if_neg (by omega), if_neg (by omega), if_pos e]
theorem pT6 (a : (l.length : Int) = 3) (b : l.any (fun x => !numberS x) = false) (c : (pr.length : Int) ≤ 8) (d : (bl.length : Int) ≤ 8) (e : pr.any longS = false) (f : bl.any longS = true) : parseT pr bl l = (relV 0 0 0, 7) := by rw [parseT, if_neg (by omega), if_neg (nb b), if_neg (by omega), if_neg (by omega), if_neg (nb e), if_pos f]
theorem pT7 (a : (l.length : Int) = 3) (b : l.any (fun x => !numberS x) = false) (c : (pr.length : Int) ≤ 8) (d : (bl.length : Int) ≤ 8) (e : pr.any longS = false) (f : bl.any longS = false) (i : l.any greatS = true) : parseT pr bl l = (relV 0 0 0, 2) := by rw [parseT, if_neg (by omega), if_neg (nb b), if_neg (by omega), if_neg (by omega), if_neg (nb e), if_neg (nb f), if_pos i]
theorem pT8 (a : (l.length : Int) = 3) (b : l.any (fun x => !numberS x) = false) (c : (pr.length : Int) ≤ 8) (d : (bl.length : Int) ≤ 8) (e : pr.any longS = false) (f : bl.any longS = false) (i : l.any greatS = false) (j : pr.any greatS = true) : parseT pr bl l = (relV 0 0 0, 2) := by rw [parseT, if_neg (by omega), if_neg (nb b), if_neg (by omega), if_neg (by omega), if_neg (nb e), if_neg (nb f), if_neg (nb i), if_pos j]
theorem pT9 (a : (l.length : Int) = 3) (b : l.any (fun x => !numberS x) = false) (c : (pr.length : Int) ≤ 8) (d : (bl.length : Int) ≤ 8) (e : pr.any longS = false) (f : bl.any longS = false) (i : l.any greatS = false) (j : pr.any greatS = false) : parseT pr bl l = (⟨valS (l.getD 0 []), valS (l.getD 1 []), valS (l.getD 2 []), pr, bl⟩, 0) := by rw [parseT, if_neg (by omega), if_neg (nb b), if_neg (by omega), if_neg (by omega), if_neg (nb e), if_neg (nb f), if_neg (nb i), if_neg (nb j)]
end

attribute [local irreducible] AC AT AO AK AH ACalls Sub Res.cells Res.obj Res.nix Res.own Exit.then Exit.inBlock bodyPost Code.wp Next Post Kont
section
variable {W0 : World} {L : List Res} {F : List Fact} {R : Value → List Res → List Fact → Prop}
set_option maxRecDepth 100000
set_option maxHeartbeats 4000000
theorem cut2_c (g : Glob W0) (s : List UInt8) (c : UInt8) (hs : s.length < 4294967281) (hT : (cutD c s).2.2 = true → R (.tuple #[S (cutD c s).1, S (cutD c s).2.1, .bool true]) L F) (hF : (cutD c s).2.2 = false → R (.tuple #[S (cutD c s).1, S (cutD c s).2.1, .bool false]) L F) :
    ACalls Tryz.prog W0 36 #[S s, S [c]] L F R := by
  refine cut_c g s c hs ?_
  cases h : (cutD c s).2.2 with
  | true => exact hT h
  | false => exact hF h
theorem words2_c (g : Glob W0) (s : List UInt8) (hs : s.length < 4294967281) (strict : Bool) (hT : (splitD 46 s).any (oddW strict) = false → ∀ a k c, R (.tuple #[.slice a k c, .bool true]) L (fS (splitD 46 s) a k c :: F)) (hF : (splitD 46 s).any (oddW strict) = true → ∀ a k c, R (.tuple #[.slice a k c, .bool false]) L (fS (splitD 46 s) a k c :: F)) :
    ACalls Tryz.prog W0 37 #[S s, .bool strict] L F R := by
  refine words_c g s hs strict ?_
  cases h : (splitD 46 s).any (oddW strict) with
  | true => exact hF h
  | false => exact hT h
theorem any_c (l : List (List UInt8)) {a : Option Addr} {k c : Nat} (m1 : fS l a k c ∈ F) (hl : Sml l) (hT : l.any (fun x => !numberS x) = true → R (.bool true) L F) (hF : l.any (fun x => !numberS x) = false → R (.bool false) L F) :
    ACalls Tryz.prog W0 39 #[.slice a k c, .func (.func 40) #[] #[]] L F R :=
  containsFunc_c l hl m1 _ [] _ (fun s hs _ _ _ hT hF => parse1_c s hs (fun e => hT (by simp [e])) (fun e => hF (by simp [e]))) hT hF
theorem anyLong_c (l : List (List UInt8)) {a : Option Addr} {k c : Nat} (m1 : fS l a k c ∈ F) (hl : Sml l) (hT : l.any longS = true → R (.bool true) L F) (hF : l.any longS = false → R (.bool false) L F) :
    ACalls Tryz.prog W0 39 #[.slice a k c, .func (.func 42) #[] #[]] L F R :=
  containsFunc_c l hl m1 _ [] _ (fun s hs _ _ _ hT hF => parse2_c s (fun e => hT (by simp [longS, e])) (fun e => hF (by simp [longS, e]))) hT hF
theorem anyGreat_c (l : List (List UInt8)) {a : Option Addr} {k c : Nat} (m1 : fS l a k c ∈ F) (hl : Sml l) (hT : l.any greatS = true → R (.bool true) L F) (hF : l.any greatS = false → R (.bool false) L F) :
    ACalls Tryz.prog W0 39 #[.slice a k c, .func (.func 43) #[] #[]] L F R :=
  containsFunc_c l hl m1 _ [] _ (fun s hs _ _ _ hT hF => parse3_c s hs hT hF) hT hF
end
end Go.Sy
