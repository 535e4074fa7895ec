/- Joined of my own texts: ScaP. -/
import Derived.Test.YtodaafgpfjcpgaaGreatDoorU15
import Derived.Lib.IndexMore
import Derived.Lib.IndexAny
import Derived.Lib.DecodeN
namespace Go.Sy
open Go
def letC (c : UInt8) : Bool := (97 ≤ c.toNat && c.toNat ≤ 122) || (65 ≤ c.toNat && c.toNat ≤ 90) || c.toNat == 95
def digC (c : UInt8) : Bool := 48 ≤ c.toNat && c.toNat ≤ 57
def wordC (c : UInt8) : Bool := letC c || digC c
def keysB : List Bs := ["break", "case", "chan", "const", "continue", "default", "defer", "else", "fallthrough", "for", "func", "go", "goto", "if", "import", "interface", "map", "package", "range", "return", "select", "struct", "switch", "type", "var"].map fun s => s.toUTF8.data.toList
def opsB : List Bs := [[46, 46, 46], [60, 60], [62, 62], [38, 38], [124, 124], [61, 61], [33, 61], [60, 61], [62, 61], [58, 61], [43], [45], [42], [47], [37], [38], [124], [94], [60], [62], [33], [40], [41], [91], [93], [123], [125], [44], [46], [59], [61], [58], [126]]
def whileF (p : Nat → UInt8 → Bool) : Nat → Bs → Nat
  | n, [] => n
  | n, c :: r => if p n c then whileF p (n + 1) r else n
def basedB (s : Bs) : Bool := decide (1 < s.length) && (s.getD 0 0).toNat == 48 && [120, 88, 98, 66, 111, 79].contains (s.getD 1 0)
def numP (s : Bs) (hex : Bool) (i : Nat) (c : UInt8) : Bool := wordC c || c.toNat == 46 || ((c.toNat == 43 || c.toNat == 45) && decide (0 < i) && ((s.getD (i - 1) 0).toNat == 101 || (s.getD (i - 1) 0).toNat == 69) && !hex)
def hexB (s : Bs) : Bool := basedB s && ((s.getD 1 0).toNat == 120 || (s.getD 1 0).toNat == 88)
def numberB (s : Bs) : Int × Nat :=
  let n := whileF (numP s (hexB s)) 0 s
  (if !basedB s && Lib.containsAny (s.take n) [46, 101, 69] then 3 else 2, n)
def quotedF (q : UInt8) (raw : Bool) : Nat → Bs → Nat
  | _, [] => 0
  | i, c :: r => if c = q then i + 1 else if !raw && c.toNat == 10 then 0 else if !raw && c.toNat == 92 then (match r with
      | [] => 0
      | e :: r' => if e.toNat = 10 then 0 else quotedF q raw (i + 2) r') else quotedF q raw (i + 1) r
def quotedB (s : Bs) : Nat := quotedF (s.getD 0 0) ((s.getD 0 0).toNat == 96) 1 (s.drop 1)
def tokenB (s : Bs) : Except Int (Int × Nat) :=
  let c := s.getD 0 0
  if letC c then
    (let n := whileF (fun _ c => wordC c) 0 s
    if 20 < n then .error 7 else if keysB.contains (s.take n) then .ok (7, n) else .ok (1, n))
  else if digC c || (c.toNat == 46 && decide (1 < s.length) && digC (s.getD 1 0)) then .ok (numberB s)
  else if c.toNat == 39 || c.toNat == 34 || c.toNat == 96 then (if quotedB s = 0 then .error 5 else .ok (if c.toNat = 39 then 4 else 5, quotedB s))
  else match opsB.find? (fun o => o.isPrefixOf s) with
    | some o => .ok (6, o.length)
    | none => .error 12
structure Tok where
  kind : Int
  text : Bs
  pos : Nat
def Tok.tk (t : Tok) : Tk := (t.kind, t.text)
def endsT (k : Int) (x : Bs) : Bool := if k = 6 then x == [41] || x == [93] || x == [125] else if k = 7 then x == [114, 101, 116, 117, 114, 110] else 1 ≤ k && k ≤ 5
def endsB (l : List Tok) : Bool := match l.getLast? with
  | none => false
  | some t => endsT t.kind t.text
def skippedB (s : Bs) : Option (Nat × Bool) :=
  let c := s.getD 0 0
  if [9, 13, 32].contains c then some (1, false)
  else if c.toNat == 10 then some (1, true)
  else if [47, 47].isPrefixOf s then some (whileF (fun _ c => c.toNat != 10) 0 s, false)
  else if [47, 42].isPrefixOf s then (if (Lib.cut (s.drop 2) [42, 47]).2.2 then some ((Lib.cut (s.drop 2) [42, 47]).1.length + 4, (Lib.cut (s.drop 2) [42, 47]).1.contains 10) else none)
  else some (0, false)
def closeB (out : List Tok) (pos : Nat) : List Tok := (if endsB out then out ++ [⟨6, [10], pos⟩] else out) ++ [⟨0, [], pos⟩]
def scanF : Nat → Bs → Nat → List Tok → Except (Nat × Int) (List Tok)
  | 0, _, _, _ => .error (0, 99)
  | f + 1, s, pos, out =>
    if s = [] then (if 1500 < (closeB out pos).length then .error (0, 7) else .ok (closeB out pos))
    else match skippedB s with
      | none => .error (pos, 5)
      | some (n, nl) =>
        if 0 < n then scanF f (s.drop n) (pos + n) (if nl && endsB out then out ++ [⟨6, [10], pos⟩] else out)
        else match tokenB s with
          | .error e => .error (pos, e)
          | .ok (k, n) => scanF f (s.drop n) (pos + n) (out ++ [⟨k, s.take n, pos⟩])
def decS (s : Bs) : Nat × Nat := Lib.decodeN s.length (s.getD 0 0).toNat (s.getD 1 0).toNat (s.getD 2 0).toNat (s.getD 3 0).toNat
def checkF : Nat → Bs → Nat → Option Nat
  | 0, _, _ => none
  | f + 1, s, pos => if s = [] then none
    else if (decS s).1 = 0 then some pos
    else if (decS s).1 = 65533 ∧ [239, 191, 189].isPrefixOf s = false then some pos
    else checkF f (s.drop (decS s).2) (pos + (decS s).2)
def checkB (s : Bs) : Except (Nat × Int) Unit := if 4000 < s.length then .error (0, 7) else match checkF s.length s 0 with
  | some pos => .error (pos, 12)
  | none => .ok ()
def scanB (s : Bs) : Except (Nat × Int) (List Tok) := match checkB s with
  | .error e => .error e
  | .ok _ => scanF (s.length + 1) s 0 []
structure Nod where
  kind : Int
  text : Bs
  kids : List Int
  pos : Int
def posOf (T : List Tok) (i : Nat) : Nat := (T.getD i ⟨0, [], 0⟩).pos
def toNod (T : List Tok) (n : Nd) : Nod := ⟨n.kind, n.text, n.kids, (posOf T n.tn : Int)⟩
def treeB (rule : List Tk → Except (Nat × Int) (List Nd)) (s : Bs) : Except (Nat × Int) (List Nod) := match scanB s with
  | .error e => .error e
  | .ok T => match rule (T.map Tok.tk) with
    | .error (i, e) => .error (posOf T i, e)
    | .ok l => .ok (l.map (toNod T))
def fileB : Bs → Except (Nat × Int) (List Nod) := treeB pfileAll
def exprB : Bs → Except (Nat × Int) (List Nod) := treeB pexprAll
end Go.Sy
