/- Joined of my own texts: Facts, ParP, ParG. -/
import Derived.Test.YtodaafgpfjcpgaaGreatDoorX14
import Derived.Test.YtodaafgpfjcpgaaGreatDoorProg
import Derived.KernelRfl
namespace Go.Sy
open Go Go.Proofs
set_option maxRecDepth 100000
instance : ScT Tryz.prog 3 := ScT.of Tryz.underlying3 rfl HR
instance : ScT Tryz.prog 4 := ScT.of Tryz.underlying4 rfl HR
instance : ScT Tryz.prog 9 := ScT.of Tryz.underlying9 rfl HR
instance : ScT Tryz.prog 22 := ScT.of Tryz.underlying22 rfl HR
instance : ScT Tryz.prog 23 := ScT.of Tryz.underlying23 rfl HR
instance : ScT Tryz.prog 33 := ScT.of Tryz.underlying33 rfl HR
instance : AgT Tryz.prog 39 3 := AgT.of Tryz.underlying39 HR
instance : ScT Tryz.prog 41 := ScT.of Tryz.underlying41 rfl HR
instance : AgT Tryz.prog 46 1 := AgT.of Tryz.underlying46 HR
instance : ScT Tryz.prog 48 := ScT.of Tryz.underlying48 rfl HR
instance : AgT Tryz.prog 50 4 := AgT.of Tryz.underlying50 HR
instance : AgT Tryz.prog 54 2 := AgT.of Tryz.underlying54 HR
instance : AgT Tryz.prog 62 2 := AgT.of Tryz.underlying62 HR
instance : ScT Tryz.prog 79 := ScT.of Tryz.underlying79 rfl HR
instance : ScT Tryz.prog 89 := ScT.of Tryz.underlying89 rfl HR
instance : ScT Tryz.prog 90 := ScT.of Tryz.underlying90 rfl HR
instance : ZeT Tryz.prog 3 (.int .i64 0) := ZeT.of HR
instance : ZeT Tryz.prog 4 (.bool false) := ZeT.of HR
instance : ZeT Tryz.prog 5 (.int .u8 0) := ZeT.of HR
instance : ZeT Tryz.prog 9 (.string ⟨#[]⟩) := ZeT.of HR
instance : ZeT Tryz.prog 22 (.slice none 0 0) := ZeT.of HR
instance : ZeT Tryz.prog 23 (.int .i64 0) := ZeT.of HR
instance : ZeT Tryz.prog 39 (.agg #[.int .i64 0, .string ⟨#[]⟩, .int .i64 0]) := ZeT.of HR
instance : ZeT Tryz.prog 50 (.agg #[.int .i64 0, .string ⟨#[]⟩, .slice none 0 0, .int .i64 0]) := ZeT.of HR
instance : ZeT Tryz.prog 54 (.agg #[.int .i64 0, .int .i64 0]) := ZeT.of HR
instance : ZeT Tryz.prog 62 (.agg #[.int .i64 0, .int .i64 0]) := ZeT.of HR
instance : ZeT Tryz.prog 67 (.nilFunc) := ZeT.of HR
instance : ZeT Tryz.prog 79 (.slice none 0 0) := ZeT.of HR
instance : ZeT Tryz.prog 92 (.agg #[.pointer none, .slice none 0 0]) := ZeT.of HR
instance : FdT Tryz.prog 39 0 0 := FdT.of (k := 1) Tryz.underlying39 rfl rfl HR rfl
instance : FdT Tryz.prog 39 1 1 := FdT.of (k := 1) Tryz.underlying39 rfl rfl HR rfl
instance : FdT Tryz.prog 39 2 2 := FdT.of (k := 1) Tryz.underlying39 rfl rfl HR rfl
instance : FdT Tryz.prog 43 0 0 := FdT.of (k := 1) Tryz.underlying43 rfl rfl HR rfl
instance : FdT Tryz.prog 43 1 1 := FdT.of (k := 1) Tryz.underlying43 rfl rfl HR rfl
instance : FdT Tryz.prog 43 2 2 := FdT.of (k := 1) Tryz.underlying43 rfl rfl HR rfl
instance : FdT Tryz.prog 43 3 3 := FdT.of (k := 1) Tryz.underlying43 rfl rfl HR rfl
instance : FdT Tryz.prog 46 0 0 := FdT.of (k := 1) Tryz.underlying46 rfl rfl HR rfl
instance : FdT Tryz.prog 50 0 0 := FdT.of (k := 1) Tryz.underlying50 rfl rfl HR rfl
instance : FdT Tryz.prog 50 1 1 := FdT.of (k := 1) Tryz.underlying50 rfl rfl HR rfl
instance : FdT Tryz.prog 50 2 2 := FdT.of (k := 1) Tryz.underlying50 rfl rfl HR rfl
instance : FdT Tryz.prog 50 3 3 := FdT.of (k := 1) Tryz.underlying50 rfl rfl HR rfl
instance : FdT Tryz.prog 54 0 0 := FdT.of (k := 1) Tryz.underlying54 rfl rfl HR rfl
instance : FdT Tryz.prog 54 1 1 := FdT.of (k := 1) Tryz.underlying54 rfl rfl HR rfl
instance : FdT Tryz.prog 62 0 0 := FdT.of (k := 1) Tryz.underlying62 rfl rfl HR rfl
instance : FdT Tryz.prog 62 1 1 := FdT.of (k := 1) Tryz.underlying62 rfl rfl HR rfl
instance : FdT Tryz.prog 92 0 0 := FdT.of (k := 1) Tryz.underlying92 rfl rfl HR rfl
instance : FdT Tryz.prog 92 1 1 := FdT.of (k := 1) Tryz.underlying92 rfl rfl HR rfl
instance : ArT Tryz.prog 107 33 9 := ArT.of Tryz.underlying107 HR
instance : ArT Tryz.prog 113 25 9 := ArT.of Tryz.underlying113 HR
instance : CoT Tryz.prog 54 := ⟨by kernel_rfl⟩
instance : FvT Tryz.prog 39 0 0 := FvT.of (t1 := 3) Tryz.underlying39 rfl rfl rfl
instance : FvT Tryz.prog 39 2 2 := FvT.of (t1 := 3) Tryz.underlying39 rfl rfl rfl
instance : BoT Tryz.prog 4 := ⟨Tryz.underlying4⟩
instance : StT Tryz.prog 9 := ⟨Tryz.underlying9⟩
instance : SlT Tryz.prog 22 50 4 56 := SlT.of Tryz.underlying22 HR rfl
instance : SlT Tryz.prog 41 39 3 32 := SlT.of Tryz.underlying41 HR rfl
instance : SlT Tryz.prog 48 3 1 8 := SlT.of Tryz.underlying48 HR rfl
instance : SlT Tryz.prog 65 4 1 1 := SlT.of Tryz.underlying65 HR rfl
instance : MpT Tryz.prog 68 3 67 := ⟨Tryz.underlying68⟩
instance : KyT Tryz.prog 3 (fun i : Int => .int .i64 i) := KyT.int Tryz.underlying3
instance : SlT Tryz.prog 79 9 1 16 := SlT.of Tryz.underlying79 HR rfl
instance : SlT Tryz.prog 84 79 1 24 := SlT.of Tryz.underlying84 HR rfl
instance : SlT Tryz.prog 90 5 1 1 := SlT.of Tryz.underlying90 HR rfl
instance : BdT Tryz.prog 39 [.int .i64 0, .string ⟨#[]⟩, .int .i64 0] [(0, 1), (1, 1), (2, 1)] := BdT.of Tryz.underlying39 HR HR
instance : BdT Tryz.prog 43 [.slice none 0 0, .int .i64 0, .slice none 0 0, .int .i64 0] [(0, 1), (1, 1), (2, 1), (3, 1)] := BdT.of Tryz.underlying43 HR HR
instance : BdT Tryz.prog 46 [.slice none 0 0] [(0, 1)] := BdT.of Tryz.underlying46 HR HR
instance : BdT Tryz.prog 50 [.int .i64 0, .string ⟨#[]⟩, .slice none 0 0, .int .i64 0] [(0, 1), (1, 1), (2, 1), (3, 1)] := BdT.of Tryz.underlying50 HR HR
instance : BdT Tryz.prog 54 [.int .i64 0, .int .i64 0] [(0, 1), (1, 1)] := BdT.of Tryz.underlying54 HR HR
instance : BdT Tryz.prog 62 [.int .i64 0, .int .i64 0] [(0, 1), (1, 1)] := BdT.of Tryz.underlying62 HR HR
instance : MxT Tryz.prog := ⟨by kernel_rfl⟩
instance : FnT Tryz.prog 5 := FnT.of Tryz.func5 HR HR
instance : FnT Tryz.prog 6 := FnT.of Tryz.func6 HR HR
instance : FnT Tryz.prog 7 := FnT.of Tryz.func7 HR HR
instance : FnT Tryz.prog 8 := FnT.of Tryz.func8 HR HR
instance : FnT Tryz.prog 9 := FnT.of Tryz.func9 HR HR
instance : FnT Tryz.prog 11 := FnT.of Tryz.func11 HR HR
instance : FnT Tryz.prog 12 := FnT.of Tryz.func12 HR HR
instance : FnT Tryz.prog 13 := FnT.of Tryz.func13 HR HR
instance : FnT Tryz.prog 14 := FnT.of Tryz.func14 HR HR
instance : FnT Tryz.prog 15 := FnT.of Tryz.func15 HR HR
instance : FnT Tryz.prog 16 := FnT.of Tryz.func16 HR HR
instance : FnT Tryz.prog 17 := FnT.of Tryz.func17 HR HR
instance : FnT Tryz.prog 18 := FnT.of Tryz.func18 HR HR
instance : FnT Tryz.prog 19 := FnT.of Tryz.func19 HR HR
instance : FnT Tryz.prog 20 := FnT.of Tryz.func20 HR HR
instance : FnT Tryz.prog 21 := FnT.of Tryz.func21 HR HR
instance : FnT Tryz.prog 22 := FnT.of Tryz.func22 HR HR
instance : FnT Tryz.prog 23 := FnT.of Tryz.func23 HR HR
instance : FnT Tryz.prog 24 := FnT.of Tryz.func24 HR HR
instance : FnT Tryz.prog 25 := FnT.of Tryz.func25 HR HR
instance : FnT Tryz.prog 26 := FnT.of Tryz.func26 HR HR
instance : FnT Tryz.prog 27 := FnT.of Tryz.func27 HR HR
instance : FnT Tryz.prog 28 := FnT.of Tryz.func28 HR HR
instance : FnT Tryz.prog 29 := FnT.of Tryz.func29 HR HR
instance : FnT Tryz.prog 30 := FnT.of Tryz.func30 HR HR
instance : FnT Tryz.prog 31 := FnT.of Tryz.func31 HR HR
instance : FnT Tryz.prog 32 := FnT.of Tryz.func32 HR HR
instance : FnT Tryz.prog 33 := FnT.of Tryz.func33 HR HR
instance : FnT Tryz.prog 34 := FnT.of Tryz.func34 HR HR
instance : FnT Tryz.prog 35 := FnT.of Tryz.func35 HR HR
instance : FnT Tryz.prog 36 := FnT.of Tryz.func36 HR HR
instance : FnT Tryz.prog 37 := FnT.of Tryz.func37 HR HR
instance : FnT Tryz.prog 38 := FnT.of Tryz.func38 HR HR
instance : FnT Tryz.prog 39 := FnT.of Tryz.func39 HR HR
instance : FnT Tryz.prog 40 := FnT.of Tryz.func40 HR HR
instance : FnT Tryz.prog 41 := FnT.of Tryz.func41 HR HR
instance : FnT Tryz.prog 42 := FnT.of Tryz.func42 HR HR
instance : FnT Tryz.prog 43 := FnT.of Tryz.func43 HR HR
instance : FnT Tryz.prog 44 := FnT.of Tryz.func44 HR HR
instance : FnT Tryz.prog 45 := FnT.of Tryz.func45 HR HR
instance : FnT Tryz.prog 46 := FnT.of Tryz.func46 HR HR
instance : FnT Tryz.prog 47 := FnT.of Tryz.func47 HR HR
instance : FnT Tryz.prog 48 := FnT.of Tryz.func48 HR HR
instance : FnT Tryz.prog 49 := FnT.of Tryz.func49 HR HR
instance : FnT Tryz.prog 50 := FnT.of Tryz.func50 HR HR
instance : FnT Tryz.prog 51 := FnT.of Tryz.func51 HR HR
instance : FnT Tryz.prog 52 := FnT.of Tryz.func52 HR HR
instance : FnT Tryz.prog 53 := FnT.of Tryz.func53 HR HR
instance : FnT Tryz.prog 54 := FnT.of Tryz.func54 HR HR
instance : FnT Tryz.prog 55 := FnT.of Tryz.func55 HR HR
instance : FnT Tryz.prog 56 := FnT.of Tryz.func56 HR HR
instance : FnT Tryz.prog 57 := FnT.of Tryz.func57 HR HR
instance : FnT Tryz.prog 58 := FnT.of Tryz.func58 HR HR
instance : FnT Tryz.prog 59 := FnT.of Tryz.func59 HR HR
instance : FnT Tryz.prog 60 := FnT.of Tryz.func60 HR HR
instance : FnT Tryz.prog 61 := FnT.of Tryz.func61 HR HR
instance : FnT Tryz.prog 62 := FnT.of Tryz.func62 HR HR
instance : FnT Tryz.prog 63 := FnT.of Tryz.func63 HR HR
instance : FnT Tryz.prog 64 := FnT.of Tryz.func64 HR HR
instance : FnT Tryz.prog 65 := FnT.of Tryz.func65 HR HR
instance : FnT Tryz.prog 66 := FnT.of Tryz.func66 HR HR
instance : FnT Tryz.prog 67 := FnT.of Tryz.func67 HR HR
instance : FnT Tryz.prog 68 := FnT.of Tryz.func68 HR HR
instance : FnT Tryz.prog 69 := FnT.of Tryz.func69 HR HR
instance : FnT Tryz.prog 70 := FnT.of Tryz.func70 HR HR
instance : FnT Tryz.prog 71 := FnT.of Tryz.func71 HR HR
instance : FnT Tryz.prog 72 := FnT.of Tryz.func72 HR HR
instance : FnT Tryz.prog 73 := FnT.of Tryz.func73 HR HR
instance : FnT Tryz.prog 74 := FnT.of Tryz.func74 HR HR
instance : FnT Tryz.prog 75 := FnT.of Tryz.func75 HR HR
instance : FnT Tryz.prog 76 := FnT.of Tryz.func76 HR HR
instance : FnT Tryz.prog 77 := FnT.of Tryz.func77 HR HR
instance : FnT Tryz.prog 78 := FnT.of Tryz.func78 HR HR
instance : FnT Tryz.prog 79 := FnT.of Tryz.func79 HR HR
instance : FnT Tryz.prog 80 := FnT.of Tryz.func80 HR HR
instance : FnT Tryz.prog 81 := FnT.of Tryz.func81 HR HR
instance : FnT Tryz.prog 82 := FnT.of Tryz.func82 HR HR
instance : FnT Tryz.prog 83 := FnT.of Tryz.func83 HR HR
instance : FnT Tryz.prog 84 := FnT.of Tryz.func84 HR HR
instance : FnT Tryz.prog 85 := FnT.of Tryz.func85 HR HR
instance : FnT Tryz.prog 86 := FnT.of Tryz.func86 HR HR
instance : FnT Tryz.prog 87 := FnT.of Tryz.func87 HR HR
instance : FnT Tryz.prog 88 := FnT.of Tryz.func88 HR HR
instance : FnT Tryz.prog 89 := FnT.of Tryz.func89 HR HR
instance : FnT Tryz.prog 90 := FnT.of Tryz.func90 HR HR
instance : FnT Tryz.prog 91 := FnT.of Tryz.func91 HR HR
instance : FnT Tryz.prog 92 := FnT.of Tryz.func92 HR HR
instance : FnT Tryz.prog 93 := FnT.of Tryz.func93 HR HR
instance : FnT Tryz.prog 94 := FnT.of Tryz.func94 HR HR
instance : FnT Tryz.prog 95 := FnT.of Tryz.func95 HR HR
instance : FnT Tryz.prog 96 := FnT.of Tryz.func96 HR HR
instance : FnT Tryz.prog 97 := FnT.of Tryz.func97 HR HR
instance : FnT Tryz.prog 98 := FnT.of Tryz.func98 HR HR
instance : FnT Tryz.prog 99 := FnT.of Tryz.func99 HR HR
instance : FnT Tryz.prog 101 := FnT.of Tryz.func101 HR HR
instance : FnT Tryz.prog 102 := FnT.of Tryz.func102 HR HR
instance : FnT Tryz.prog 103 := FnT.of Tryz.func103 HR HR
instance : FnT Tryz.prog 104 := FnT.of Tryz.func104 HR HR
instance : FnT Tryz.prog 105 := FnT.of Tryz.func105 HR HR
instance : FnT Tryz.prog 106 := FnT.of Tryz.func106 HR HR
instance : FnT Tryz.prog 107 := FnT.of Tryz.func107 HR HR
instance : FnT Tryz.prog 108 := FnT.of Tryz.func108 HR HR
instance : FnT Tryz.prog 109 := FnT.of Tryz.func109 HR HR
instance : FnT Tryz.prog 110 := FnT.of Tryz.func110 HR HR
instance : FnT Tryz.prog 115 := FnT.of Tryz.func115 HR HR
instance : FnT Tryz.prog 116 := FnT.of Tryz.func116 HR HR
instance : FnT Tryz.prog 117 := FnT.of Tryz.func117 HR HR
instance : FnT Tryz.prog 118 := FnT.of Tryz.func118 HR HR
instance : FnT Tryz.prog 119 := FnT.of Tryz.func119 HR HR
instance : FnT Tryz.prog 120 := FnT.of Tryz.func120 HR HR
instance : FnT Tryz.prog 121 := FnT.of Tryz.func121 HR HR
instance : FnT Tryz.prog 127 := FnT.of Tryz.func127 HR HR
instance : FnT Tryz.prog 128 := FnT.of Tryz.func128 HR HR
instance : FnT Tryz.prog 129 := FnT.of Tryz.func129 HR HR
end Go.Sy
namespace Go.Sy
open Go
abbrev Bs := List UInt8
abbrev Tk := Int × Bs
structure Nd where
  kind : Int
  text : Bs
  kids : List Int
  tn : Nat
structure PS where
  i : Nat
  nodes : List Nd
  deep : Nat
abbrev PS.next (s : PS) : PS := { s with i := s.i + 1 }
abbrev PS.down (s : PS) : PS := { s with deep := s.deep + 1 }
abbrev PS.up (s : PS) : PS := { s with deep := s.deep - 1 }
abbrev PR (α : Type) := Except (Nat × Int) (α × PS)
abbrev PM (α : Type) := PS → PR α
def PM.bind {α β : Type} (m : PM α) (f : α → PM β) : PM β := fun s => match m s with
  | .ok (a, s') => f a s'
  | .error e => .error e
def PM.ret {α : Type} (a : α) : PM α := fun s => .ok (a, s)
def pfail {α : Type} (why : Int) : PM α := fun s => .error (s.i, why)
def Kon {α : Type} (r : PR α) (R : α → PS → Prop) (X : Nat → Int → Prop) : Prop := match r with
  | .ok (a, s) => R a s
  | .error (i, e) => X i e
theorem Kon.bind {α β : Type} {m : PM α} {f : α → PM β} {s : PS} {R : β → PS → Prop} {X : Nat → Int → Prop} (h : Kon (m.bind f s) R X) : Kon (m s) (fun a s' => Kon (f a s') R X) X := by
  unfold PM.bind at h
  cases hm : m s with
  | error e => rw [hm] at h; exact h
  | ok p => rw [hm] at h; exact h
theorem Kon.mono {α : Type} {r : PR α} {R R' : α → PS → Prop} {X X' : Nat → Int → Prop} (h : Kon r R X) (hr : ∀ a s, R a s → R' a s) (hx : ∀ i e, X i e → X' i e) : Kon r R' X' := by
  match r, h with
  | .ok (a, s), h => exact hr a s h
  | .error (i, e), h => exact hx i e h
section
variable (K : List Tk)
def tkAt (i : Nat) : Tk := K.getD i (0, [])
abbrev PS.tok (s : PS) : Tk := tkAt K s.i
def isB (t : Tk) (l : List Bs) : Bool := (t.1 == 6 || t.1 == 7) && l.contains t.2
def semiB (t : Tk) : Bool := isB t [[59], [10]]
def pwhen {α : Type} (x : Bs) (m1 m2 : PM α) : PM α := fun s => if isB (s.tok K) [x] then m1 s.next else m2 s
def pif {α : Type} (l : List Bs) (m1 m2 : PM α) : PM α := fun s => if isB (s.tok K) l then m1 s else m2 s
def pmust (x : Bs) : PM Unit := pwhen K x (PM.ret ()) (pfail 5)
def psemi : PM Unit := fun s => if semiB (s.tok K) then .ok ((), s.next) else .error (s.i, 5)
def pof (k : Int) : PM Bs := fun s => if (s.tok K).1 = k then .ok ((s.tok K).2, s.next) else .error (s.i, 5)
def pnode (kind : Int) (text : Bs) (tn : Nat) (kids : List Int) : PM Int := fun s =>
  if s.nodes.length = 2000 then .error (s.i, 7) else .ok ((s.nodes.length : Int), { s with nodes := s.nodes ++ [⟨kind, text, kids, tn⟩] })
def pnone : PM Int := fun s => pnode 0 [] s.i [] s
def pnested (m : PM Int) : PM Int := fun s => if s.deep = 40 then .error (s.i, 6) else PM.bind m (fun v s' => .ok (v, s'.up)) s.down
def plistF (fin : Bs) (one : PM Int) : Nat → List Int → PM (List Int)
  | 0, _ => pfail 99
  | f + 1, out => one.bind fun v => pwhen K fin (PM.ret (out ++ [v])) ((pmust K [44]).bind fun _ => pwhen K fin (PM.ret (out ++ [v])) (plistF fin one f (out ++ [v])))
def plist (fin : Bs) (one : PM Int) : PM (List Int) := plistF K fin one K.length []
def plinesF (one : PM Int) : Nat → List Int → PM (List Int)
  | 0, _ => pfail 99
  | f + 1, out => pwhen K [125] (PM.ret out) (one.bind fun v => pif K [[125]] (plinesF one f (out ++ [v])) ((psemi K).bind fun _ => plinesF one f (out ++ [v])))
def plines (one : PM Int) : PM (List Int) := (pmust K [123]).bind fun _ => plinesF K one K.length []
structure Rec where
  typ : PM Int
  union : PM Int
  expr : Nat → PM Int
  unary : PM Int
variable (r : Rec)
def pnamed : PM Int := fun s =>
  ((pof K 1).bind fun nm => (pnode 1 nm s.i []).bind fun x =>
    (pwhen K [46] ((pof K 1).bind fun t => pnode 6 t s.i [x]) (PM.ret x)).bind fun x =>
      pwhen K [91] ((plist K [93] r.typ).bind fun l => pnode 8 [] s.i (x :: l)) (PM.ret x)) s
def psignature (a : Nat) : PM Int :=
  (pmust K [40]).bind fun _ =>
    (pwhen K [41] (PM.ret []) (plist K [41] fun s => ((pof K 1).bind fun nm => (r.typ).bind fun t => pnode 19 nm s.i [t]) s)).bind fun kids => fun s =>
      if (s.tok K).1 = 1 ∨ isB (s.tok K) [[42], [91], [40], [109, 97, 112], [102, 117, 110, 99], [115, 116, 114, 117, 99, 116], [105, 110, 116, 101, 114, 102, 97, 99, 101]] = true then ((r.typ).bind fun t => pnode 15 [] a (kids ++ [t])) s
      else (pnone.bind fun t => pnode 15 [] a (kids ++ [t])) s
def pfield : PM Int := fun s =>
  if isB (s.tok K) [[42]] then (r.typ.bind fun t => pnode 18 [] s.i [t]) s
  else if (s.tok K).1 = 1 ∧ (semiB (tkAt K (min (s.i + 1) (K.length - 1))) = true ∨ isB (tkAt K (min (s.i + 1) (K.length - 1))) [[125], [46]] = true) then ((pnamed K r).bind fun t => pnode 18 [] s.i [t]) s
  else ((pof K 1).bind fun nm => r.typ.bind fun t => pnode 18 nm s.i [t]) s
def pelem : PM Int := fun s =>
  if (s.tok K).1 = 1 ∧ isB (tkAt K (min (s.i + 1) (K.length - 1))) [[40]] = true then ((pof K 1).bind fun nm => fun s1 => ((psignature K r s1.i).bind fun f => pnode 20 nm s.i [f]) s1) s
  else r.union s
def pliteral : PM Int := fun s =>
  pwhen K [91] (pwhen K [93] (r.typ.bind fun t => pnode 12 [] s.i [t]) ((r.expr 1).bind fun m => (pmust K [93]).bind fun _ => r.typ.bind fun t => pnode 13 [] s.i [m, t]))
  (pwhen K [109, 97, 112] ((pmust K [91]).bind fun _ => r.typ.bind fun k => (pmust K [93]).bind fun _ => r.typ.bind fun t => pnode 14 [] s.i [k, t])
  (pwhen K [102, 117, 110, 99] (psignature K r s.i)
  (pwhen K [115, 116, 114, 117, 99, 116] ((plines K (pfield K r)).bind fun l => pnode 16 [] s.i l)
  (pwhen K [105, 110, 116, 101, 114, 102, 97, 99, 101] ((plines K (pelem K r)).bind fun l => pnode 17 [] s.i l)
  (pfail 5))))) s
def pbare : PM Int := fun s =>
  if (s.tok K).1 = 1 then pnamed K r s
  else pwhen K [42] (r.typ.bind fun t => pnode 9 [42] s.i [t])
    (pwhen K [40] (r.typ.bind fun t => (pmust K [41]).bind fun _ => pnode 11 [] s.i [t]) (pliteral K r)) s
def punionF (a : Nat) : Nat → List Int → PM Int
  | 0, _ => pfail 99
  | f + 1, out => fun s => ((pwhen K [126] (PM.ret [126]) (PM.ret [])).bind fun x => r.typ.bind fun t => (pnode 22 x s.i [t]).bind fun v =>
      pwhen K [124] (punionF a f (out ++ [v])) (pnode 21 [] a (out ++ [v]))) s
def punion : PM Int := fun s => punionF K r s.i K.length [] s
def bindsB (t : Tk) : Nat :=
  if isB t [[124, 124]] then 1 else if isB t [[38, 38]] then 2 else if isB t [[61, 61], [33, 61], [60], [60, 61], [62], [62, 61]] then 3
  else if isB t [[43], [45], [124], [94]] then 4 else if isB t [[42], [47], [37], [38], [60, 60], [62, 62]] then 5 else 0
def pexprF (least a : Nat) : Nat → Int → PM Int
  | 0, _ => pfail 99
  | f + 1, x => fun s => if bindsB (s.tok K) < least ∨ bindsB (s.tok K) = 0 then .ok (x, s)
      else ((r.expr (bindsB (s.tok K) + 1)).bind fun y => (pnode 10 (s.tok K).2 a [x, y]).bind fun v => pexprF least a f v) s.next
def pexpr (least : Nat) : PM Int := fun s => (r.unary.bind fun x => pexprF K r least s.i K.length x) s
def poperand : PM Int := fun s =>
  if (s.tok K).1 = 1 ∨ (s.tok K).1 = 2 ∨ (s.tok K).1 = 3 ∨ (s.tok K).1 = 4 ∨ (s.tok K).1 = 5 then pnode (s.tok K).1 (s.tok K).2 s.i [] s.next
  else pwhen K [40] ((r.expr 1).bind fun x => (pmust K [41]).bind fun _ => pnode 11 [] s.i [x]) (pliteral K r) s
def pprimF (a : Nat) : Nat → Int → PM Int
  | 0, _ => pfail 99
  | f + 1, x => pwhen K [46] ((pof K 1).bind fun t => (pnode 6 t a [x]).bind fun v => pprimF a f v)
      (pwhen K [40] ((pwhen K [41] (PM.ret [x]) ((plist K [41] (r.expr 1)).bind fun l => PM.ret (x :: l))).bind fun l => (pnode 7 [] a l).bind fun v => pprimF a f v)
      (pwhen K [91] ((plist K [93] (r.expr 1)).bind fun l => (pnode 8 [] a (x :: l)).bind fun v => pprimF a f v)
      (PM.ret x)))
def pprimary : PM Int := fun s => ((poperand K r).bind fun x => pprimF K r s.i K.length x) s
def punary : PM Int := fun s =>
  if isB (s.tok K) [[43], [45], [33], [94], [42]] then (r.unary.bind fun x => pnode 9 (s.tok K).2 s.i [x]) s.next
  else pprimary K r s
def lev : Nat → Rec
  | 0 => ⟨pfail 6, pfail 6, fun _ => pfail 6, pfail 6⟩
  | d + 1 => ⟨pnested (pbare K (lev d)), pnested (punion K (lev d)), fun n => pnested (pexpr K (lev d) n), pnested (punary K (lev d))⟩
def ptypes (has : Bool) : PM Int := fun s =>
  if has then ((pmust K [91]).bind fun _ => (plist K [93] fun s1 => ((pof K 1).bind fun nm => r.union.bind fun u => pnode 27 nm s1.i [u]) s1).bind fun l => pnode 26 [] s.i l) s
  else pnode 26 [] s.i [] s
def punless (x : Bs) : PM Int := fun s => if isB (s.tok K) [x] then pnone s else r.typ s
def pbody : PM Int := fun s =>
  ((pmust K [123]).bind fun _ =>
    pwhen K [114, 101, 116, 117, 114, 110]
      (PM.bind (fun s1 => if semiB (s1.tok K) = true ∨ isB (s1.tok K) [[125]] = true then pnone s1 else r.expr 1 s1) fun v =>
        PM.bind (fun s2 => if semiB (s2.tok K) then .ok ((), s2.next) else .ok ((), s2)) fun (_ : Unit) => (pmust K [125]).bind fun _ => pnode 30 [] s.i [v])
      (pnone.bind fun v => (pmust K [125]).bind fun _ => pnode 30 [] s.i [v])) s
def pfunction (a : Nat) : PM Int := fun s =>
  ((pwhen K [40] ((pof K 1).bind fun nm => r.typ.bind fun t => (pmust K [41]).bind fun _ => pnode 29 nm s.i [t]) pnone).bind fun recv =>
    (pof K 1).bind fun nm => fun s1 => ((ptypes K r (isB (s1.tok K) [[91]])).bind fun ty => fun s2 => ((psignature K r s2.i).bind fun sig =>
      (pbody K r).bind fun b => pnode 28 nm a [recv, ty, sig, b]) s2) s1) s
def phas (s : PS) : Bool := isB (s.tok K) [[91]] && ((tkAt K (min (s.i + 1) (K.length - 1))).1 == 1 && ((tkAt K (min (s.i + 2) (K.length - 1))).1 == 1 || isB (tkAt K (min (s.i + 2) (K.length - 1))) [[126], [105, 110, 116, 101, 114, 102, 97, 99, 101]]))
def pdecl : PM Int := fun s =>
  pwhen K [99, 111, 110, 115, 116] ((pof K 1).bind fun nm => (punless K r [61]).bind fun t => (pmust K [61]).bind fun _ => (r.expr 1).bind fun v => pnode 23 nm s.i [t, v])
  (pwhen K [118, 97, 114] ((pof K 1).bind fun nm => (punless K r [61]).bind fun t => pwhen K [61] ((r.expr 1).bind fun v => pnode 24 nm s.i [t, v]) (pnone.bind fun v => pnode 24 nm s.i [t, v]))
  (pwhen K [116, 121, 112, 101] ((pof K 1).bind fun nm => fun s1 => ((ptypes K r (phas K s1)).bind fun ts => r.typ.bind fun t => pnode 25 nm s.i [ts, t]) s1)
  (pwhen K [102, 117, 110, 99] (pfunction K r s.i)
  (pfail 5)))) s
def pimportsF : Nat → List Int → PM (List Int)
  | 0, _ => pfail 99
  | f + 1, out => fun s => if isB (s.tok K) [[105, 109, 112, 111, 114, 116]] then ((pof K 5).bind fun t => (pnode 31 t s.i []).bind fun v => (psemi K).bind fun _ => pimportsF f (out ++ [v])) s.next else .ok (out, s)
def pdeclsF : Nat → List Int → PM (List Int)
  | 0, _ => pfail 99
  | f + 1, out => fun s => if (s.tok K).1 = 0 then .ok (out, s) else ((pdecl K r).bind fun v => (psemi K).bind fun _ => pdeclsF f (out ++ [v])) s
def pfile : PM Int := fun s =>
  ((pmust K [112, 97, 99, 107, 97, 103, 101]).bind fun _ => (pof K 1).bind fun nm => (psemi K).bind fun _ => (pimportsF K K.length []).bind fun l =>
    (pdeclsF K r K.length l).bind fun l => pnode 32 nm s.i l) s
def pwhole (m : PM Int) : Except (Nat × Int) (List Nd) := match m ⟨0, [], 0⟩ with
  | .ok (_, s) => if (s.tok K).1 = 0 then .ok s.nodes else .error (s.i, 5)
  | .error e => .error e
def pfileAll : Except (Nat × Int) (List Nd) := pwhole K (pfile K (lev K 40))
def pexprAll : Except (Nat × Int) (List Nd) := pwhole K (((lev K 40).expr 1).bind fun v s => if semiB (s.tok K) then .ok (v, s.next) else .ok (v, s))
end
end Go.Sy
namespace Go.Sy
open Go
structure Wf (K : List Tk) : Prop where
  pos : 0 < K.length
  len : K.length ≤ 1500
  last : (tkAt K (K.length - 1)).1 = 0
structure Inv (K : List Tk) (d : Nat) (s : PS) : Prop where
  i : s.i < K.length
  deep : s.deep + d = 40
  many : s.nodes.length ≤ 2000
def kidsOk (kind : Int) (n : Nat) : Bool :=
  if kind = 16 ∨ kind = 17 ∨ kind = 26 ∨ kind = 32 then true
  else if kind = 6 ∨ kind = 9 ∨ kind = 11 ∨ kind = 12 ∨ kind = 18 ∨ kind = 19 ∨ kind = 20 ∨ kind = 22 ∨ kind = 27 ∨ kind = 29 ∨ kind = 30 then n == 1
  else if kind = 10 ∨ kind = 13 ∨ kind = 14 ∨ kind = 23 ∨ kind = 24 ∨ kind = 25 then n == 2
  else if kind = 7 ∨ kind = 15 ∨ kind = 21 then Nat.ble 1 n
  else if kind = 8 then Nat.ble 2 n
  else if kind = 28 then n == 4
  else n == 0
structure NdOk (kind : Int) (n : Nat) : Prop where
  rng : 0 ≤ kind ∧ kind ≤ 32
  kids : kidsOk kind n = true
structure Seg (base : Nat) (p : List Int) (new : List Nd) (q : List Int) : Prop where
  perm : (new.flatMap Nd.kids ++ q).Perm (p ++ (List.range' base new.length).map Int.ofNat)
  ok : ∀ nd ∈ new, NdOk nd.kind nd.kids.length
  low : (∀ k ∈ p, k < (base : Int)) → (∀ (j : Nat) (nd : Nd), new[j]? = some nd → ∀ k ∈ nd.kids, k < ((base + j : Nat) : Int)) ∧ ∀ k ∈ q, k < ((base + new.length : Nat) : Int)
theorem Seg.nil (base : Nat) (p : List Int) : Seg base p [] p := ⟨by simp, by simp, fun h => ⟨by simp, by simpa using h⟩⟩
theorem Seg.trans {base : Nat} {p q t : List Int} {new new' : List Nd} (h : Seg base p new q) (k : Seg (base + new.length) q new' t) : Seg base p (new ++ new') t := by
  refine ⟨?_, ?_, ?_⟩
  · rw [List.flatMap_append, List.append_assoc, List.length_append, ← List.range'_append, List.map_append]
    have h1 := h.perm
    have k1 := k.perm
    refine (List.Perm.append_left _ k1).trans ?_
    rw [← List.append_assoc, ← List.append_assoc]
    simp only [Nat.one_mul]
    exact List.Perm.append_right _ h1
  · intro nd hnd
    rcases List.mem_append.1 hnd with q | q
    · exact h.ok nd q
    exact k.ok nd q
  intro hp
  obtain ⟨a1, a2⟩ := h.low hp
  obtain ⟨b1, b2⟩ := k.low a2
  refine ⟨fun j nd hj => ?_, fun x hx => ?_⟩
  · rcases Nat.lt_or_ge j new.length with q | q
    · rw [List.getElem?_append_left q] at hj
      exact a1 j nd hj
    rw [List.getElem?_append_right q] at hj
    intro x hx
    have := b1 _ nd hj x hx
    have e : base + new.length + (j - new.length) = base + j := by omega
    rwa [e] at this
  have := b2 x hx
  rw [List.length_append, ← Nat.add_assoc]; exact this
theorem Seg.frame {base : Nat} {p q : List Int} {new : List Nd} (rest : List Int) (hr : ∀ k ∈ rest, k < (base : Int)) (h : Seg base p new q) : Seg base (rest ++ p) new (rest ++ q) := by
  refine ⟨?_, h.ok, ?_⟩
  · rw [← List.append_assoc]
    refine (List.Perm.append_right _ List.perm_append_comm).trans ?_
    rw [List.append_assoc, List.append_assoc]
    exact List.Perm.append_left _ h.perm
  intro hp
  obtain ⟨a1, a2⟩ := h.low (fun k hk => hp k (List.mem_append_right _ hk))
  refine ⟨a1, fun k hk => ?_⟩
  rcases List.mem_append.1 hk with q | q
  · have := hr k q; omega
  exact a2 k q
theorem Seg.node {base : Nat} {nd : Nd} (hn : NdOk nd.kind nd.kids.length) : Seg base nd.kids [nd] [(base : Int)] := by
  refine ⟨by simp, by simpa using hn, fun hp => ⟨fun j x hj => ?_, by simp; omega⟩⟩
  cases j with
  | zero => simp at hj; subst hj; simpa using hp
  | succ j => simp at hj
section
variable (K : List Tk) (d : Nat)
def G {α : Type} (s : PS) (k : Nat) (p : List Int) (r : PR α) (q : α → List Int) : Prop := match r with
  | .ok (a, s') => Inv K d s' ∧ s.i + k ≤ s'.i ∧ ((∀ x ∈ p, x < (s.nodes.length : Int)) → ∃ new, s'.nodes = s.nodes ++ new ∧ Seg s.nodes.length p new (q a))
  | .error (i, e) => i < K.length ∧ (e = 5 ∨ e = 6 ∨ e = 7)
end
section
variable {K : List Tk} {d : Nat} {s : PS} {α β : Type}
theorem Inv.next (h : Inv K d s) (w : Wf K) (ht : (s.tok K).1 ≠ 0) : Inv K d s.next := by
  refine ⟨?_, h.deep, h.many⟩
  show s.i + 1 < K.length
  rcases Nat.lt_or_ge (s.i + 1) K.length with q | q
  · exact q
  exfalso
  apply ht
  have e : s.i = K.length - 1 := by have := h.i; omega
  show (tkAt K s.i).1 = 0
  rw [e]; exact w.last
theorem isB_ne {t : Tk} {l : List Bs} (h : isB t l = true) : t.1 ≠ 0 := by
  intro e
  simp [isB, e] at h
theorem G.le {k k' : Nat} {p : List Int} {r : PR α} {q : α → List Int} (h : G K d s k p r q) (hk : k' ≤ k) : G K d s k' p r q := by
  unfold G at *
  split <;> simp_all <;> omega
theorem G.next {k : Nat} {p : List Int} {r : PR α} {q : α → List Int} (h : G K d s.next k p r q) : G K d s (k + 1) p r q := by
  match r, h with
  | .ok (a, s'), ⟨h1, h2, h3⟩ => exact ⟨h1, by have : s.i + 1 + k ≤ s'.i := h2; omega, h3⟩
  | .error (i, e), h => exact h
theorem G.bind {m : PM α} {f : α → PM β} {k1 k2 : Nat} {p : List Int} {q : α → List Int} {t : β → List Int} (h : G K d s k1 p (m s) q)
    (hf : ∀ a s', m s = .ok (a, s') → Inv K d s' → s.i + k1 ≤ s'.i → G K d s' k2 (q a) (f a s') t) : G K d s (k1 + k2) p (m.bind f s) t := by
  unfold PM.bind
  match hm : m s, h with
  | .error (i, e), h => exact h
  | .ok (a, s1), ⟨h1, h2, h3⟩ =>
    have := hf a s1 hm h1 h2
    simp only
    match f a s1, this with
    | .error (i, e), h => exact h
    | .ok (b, s2), ⟨g1, g2, g3⟩ =>
      refine ⟨g1, by omega, fun hp => ?_⟩
      obtain ⟨new, e1, sg⟩ := h3 hp
      have hq := (sg.low hp).2
      obtain ⟨new2, e2, sg2⟩ := g3 (by rw [e1, List.length_append]; exact hq)
      refine ⟨new ++ new2, by rw [e2, e1, List.append_assoc], sg.trans ?_⟩
      rw [e1, List.length_append] at sg2; exact sg2
theorem G.frame {k : Nat} {p : List Int} {r : PR α} {q : α → List Int} (rest : List Int) (h : G K d s k p r q) : G K d s k (rest ++ p) r (fun a => rest ++ q a) := by
  match r, h with
  | .error (i, e), h => exact h
  | .ok (a, s'), ⟨h1, h2, h3⟩ =>
    refine ⟨h1, h2, fun hp => ?_⟩
    obtain ⟨new, e, sg⟩ := h3 (fun x hx => hp x (List.mem_append_right _ hx))
    exact ⟨new, e, sg.frame rest (fun x hx => hp x (List.mem_append_left _ hx))⟩
theorem G.with {k : Nat} {r : PR α} {q : α → List Int} (rest : List Int) (h : G K d s k [] r q) : G K d s k rest r (fun a => rest ++ q a) := by
  have := h.frame rest
  rwa [List.append_nil] at this
theorem G.keep {k : Nat} {r : PR α} (rest : List Int) (h : G K d s k [] r (fun _ => [])) : G K d s k rest r (fun _ => rest) := by
  have := h.with rest
  simp only [List.append_nil] at this
  exact this
theorem G.ret {a : α} {q : α → List Int} (h : Inv K d s) : G K d s 0 (q a) (.ok (a, s)) q := ⟨h, Nat.le_refl _, fun _ => ⟨[], by simp, Seg.nil _ _⟩⟩
theorem G.fail {k : Nat} {p : List Int} {q : α → List Int} {why : Int} (h : Inv K d s) (hw : why = 5 ∨ why = 6 ∨ why = 7) : G K d s k p (pfail why s) q := ⟨h.i, hw⟩
theorem G.when {x : Bs} {m1 m2 : PM α} {k : Nat} {p : List Int} {q : α → List Int} (w : Wf K) (h : Inv K d s) {k1 : Nat} (h1 : isB (s.tok K) [x] = true → Inv K d s.next → G K d s.next k1 p (m1 s.next) q) (h2 : isB (s.tok K) [x] = false → G K d s k p (m2 s) q) (hk : k ≤ k1 + 1) :
    G K d s k p (pwhen K x m1 m2 s) q := by
  unfold pwhen
  cases hb : isB (s.tok K) [x]
  · exact h2 hb
  exact (h1 hb (h.next w (isB_ne hb))).next.le hk
theorem pof_g (w : Wf K) (h : Inv K d s) {k : Int} (hk : k ≠ 0) : G K d s 1 [] (pof K k s) (fun _ => []) := by
  unfold pof
  split
  · rename_i e
    exact ⟨h.next w (by rw [e]; exact hk), Nat.le_refl _, fun _ => ⟨[], by simp, Seg.nil _ _⟩⟩
  exact ⟨h.i, .inl rfl⟩
theorem pmust_g (w : Wf K) (h : Inv K d s) {x : Bs} : G K d s 1 [] (pmust K x s) (fun _ => []) :=
  G.when w h (k1 := 0) (fun _ h1 => G.ret (q := fun _ => []) h1) (fun _ => G.fail h (.inl rfl)) (Nat.le_refl _)
theorem psemi_g (w : Wf K) (h : Inv K d s) : G K d s 1 [] (psemi K s) (fun _ => []) := by
  unfold psemi
  cases hb : semiB (s.tok K)
  · exact ⟨h.i, .inl rfl⟩
  exact ⟨h.next w (isB_ne hb), Nat.le_refl _, fun _ => ⟨[], by simp, Seg.nil _ _⟩⟩
theorem pnode_g (h : Inv K d s) {kind : Int} {text : Bs} {tn : Nat} {kids : List Int} (hk : 0 ≤ kind ∧ kind ≤ 32) (hn : kidsOk kind kids.length = true) : G K d s 0 kids (pnode kind text tn kids s) (fun v => [v]) := by
  unfold pnode
  split
  · exact ⟨h.i, .inr (.inr rfl)⟩
  rename_i hm
  have := h.many
  exact ⟨⟨h.i, h.deep, by simp; omega⟩, Nat.le_refl _, fun _ => ⟨_, rfl, Seg.node (nd := ⟨kind, text, kids, tn⟩) ⟨hk, hn⟩⟩⟩
theorem pnone_g (h : Inv K d s) : G K d s 0 [] (pnone s) (fun v => [v]) := pnode_g h (by decide) rfl
theorem plistF_g (w : Wf K) {one : PM Int} {fin : Bs} (ho : ∀ s, Inv K d s → G K d s 1 [] (one s) (fun v => [v])) : ∀ (f : Nat) (s : PS) (out : List Int), Inv K d s → K.length ≤ f + s.i → G K d s 1 out (plistF K fin one f out s) (fun l => l)
  | 0, s, out, h, hf => by have := h.i; omega
  | f + 1, s, out, h, hf => by
    unfold plistF
    refine (G.bind (k2 := 0) ((ho s h).with out) (fun v s1 _ h1 l1 => ?_)).le HS
    refine G.when w h1 (k1 := 0) (fun _ h2 => G.ret (q := fun l => l) h2) (fun _ => ?_) HS
    refine (G.bind (k2 := 0) ((pmust_g w h1).keep _) (fun _ s2 _ h2 l2 => ?_)).le HS
    refine G.when w h2 (k1 := 0) (fun _ h3 => G.ret (q := fun l => l) h3) (fun _ => ?_) HS
    exact (plistF_g w ho f s2 _ h2 HS).le HS
theorem plist_g (w : Wf K) {one : PM Int} {fin : Bs} (ho : ∀ s, Inv K d s → G K d s 1 [] (one s) (fun v => [v])) (h : Inv K d s) : G K d s 1 [] (plist K fin one s) (fun l => l) := plistF_g w ho _ _ _ h HS
theorem plistF_ne {one : PM Int} {fin : Bs} : ∀ (f : Nat) (s : PS) (out l : List Int) (s' : PS), plistF K fin one f out s = .ok (l, s') → l ≠ []
  | 0, s, out, l, s', h => by simp [plistF, pfail] at h
  | f + 1, s, out, l, s', h => by
    unfold plistF PM.bind at h
    cases h1 : one s with
    | error e => rw [h1] at h; cases h
    | ok p =>
      obtain ⟨v, s1⟩ := p
      rw [h1] at h
      simp only [pwhen] at h
      split at h
      · injection h with h; injection h with h _; subst h; simp
      cases h2 : pmust K [44] s1 with
      | error e => rw [h2] at h; cases h
      | ok p =>
        rw [h2] at h
        simp only at h
        split at h
        · injection h with h; injection h with h _; subst h; simp
        exact plistF_ne f _ _ l s' h
theorem plinesF_g (w : Wf K) {one : PM Int} (ho : ∀ s, Inv K d s → G K d s 1 [] (one s) (fun v => [v])) : ∀ (f : Nat) (s : PS) (out : List Int), Inv K d s → K.length ≤ f + s.i → G K d s 1 out (plinesF K one f out s) (fun l => l)
  | 0, s, out, h, hf => by have := h.i; omega
  | f + 1, s, out, h, hf => by
    unfold plinesF
    refine G.when w h (k1 := 0) (fun _ h2 => G.ret (q := fun l => l) h2) (fun _ => ?_) HS
    refine (G.bind (k2 := 0) ((ho s h).with out) (fun v s1 _ h1 l1 => ?_)).le HS
    unfold pif
    split
    · exact (plinesF_g w ho f s1 _ h1 HS).le HS
    refine (G.bind (k2 := 0) ((psemi_g w h1).keep _) (fun _ s2 _ h2 l2 => ?_)).le HS
    exact (plinesF_g w ho f s2 _ h2 HS).le HS
theorem plines_g (w : Wf K) {one : PM Int} (ho : ∀ s, Inv K d s → G K d s 1 [] (one s) (fun v => [v])) (h : Inv K d s) : G K d s 1 [] (plines K one s) (fun l => l) :=
  (G.bind (k2 := 1) (pmust_g w h) (fun _ s1 _ h1 l1 => plinesF_g w ho _ _ _ h1 HS)).le HS
structure RecG (K : List Tk) (d : Nat) (r : Rec) : Prop where
  typ : ∀ s, Inv K d s → G K d s 1 [] (r.typ s) (fun v => [v])
  union : ∀ s, Inv K d s → G K d s 1 [] (r.union s) (fun v => [v])
  expr : ∀ n s, Inv K d s → G K d s 1 [] (r.expr n s) (fun v => [v])
  unary : ∀ s, Inv K d s → G K d s 1 [] (r.unary s) (fun v => [v])
variable {r : Rec}
theorem pnamed_g (w : Wf K) (hr : RecG K d r) (h : Inv K d s) : G K d s 1 [] (pnamed K r s) (fun v => [v]) := by
  unfold pnamed
  refine (G.bind (k2 := 0) (pof_g w h (by decide)) (fun nm s1 _ h1 l1 => ?_)).le HS
  refine (G.bind (k2 := 0) (pnode_g h1 (by decide) HQ) (fun x s2 _ h2 l2 => ?_)).le HS
  refine (G.bind (k1 := 0) (k2 := 0) (q := fun v => [v]) (G.when w h2 (k1 := 0) (fun _ h3 => ?_) (fun _ => G.ret (q := fun v => [v]) h2) HS) (fun x s3 _ h3 l3 => ?_)).le HS
  · refine (G.bind (k2 := 0) ((pof_g w h3 (by decide)).keep [x]) (fun t s4 _ h4 l4 => ?_)).le HS
    exact pnode_g h4 (by decide) rfl
  refine G.when w h3 (k1 := 0) (fun _ h4 => ?_) (fun _ => G.ret (q := fun v => [v]) h3) HS
  refine (G.bind (k2 := 0) ((plist_g w hr.typ h4).with [x]) (fun l s5 e5 h5 l5 => ?_)).le HS
  have := plistF_ne _ _ _ _ _ e5
  exact pnode_g h5 (by decide) (by cases l <;> simp_all [kidsOk, Nat.ble])
theorem psignature_g (w : Wf K) (hr : RecG K d r) (h : Inv K d s) (a : Nat) : G K d s 1 [] (psignature K r a s) (fun v => [v]) := by
  unfold psignature
  refine (G.bind (k2 := 0) (pmust_g w h) (fun _ s1 _ h1 l1 => ?_)).le HS
  refine (G.bind (k1 := 0) (k2 := 0) (q := fun l => l) (G.when w h1 (k1 := 0) (fun _ h2 => G.ret (q := fun l => l) h2) (fun _ => ?_) HS) (fun l s2 _ h2 l2 => ?_)).le HS
  · refine (plist_g w (fun s3 h3 => ?_) h1).le HS
    refine (G.bind (k2 := 0) (pof_g w h3 (by decide)) (fun nm s4 _ h4 l4 => ?_)).le HS
    refine (G.bind (k2 := 0) (hr.typ _ h4) (fun t s5 _ h5 l5 => ?_)).le HS
    exact pnode_g h5 (by decide) rfl
  split
  · refine (G.bind (k2 := 0) ((hr.typ _ h2).with l) (fun t s3 _ h3 l3 => ?_)).le HS
    exact pnode_g h3 (by decide) (by simp [kidsOk])
  refine (G.bind (k2 := 0) ((pnone_g h2).with l) (fun t s3 _ h3 l3 => ?_)).le HS
  exact pnode_g h3 (by decide) (by simp [kidsOk])
theorem pfield_g (w : Wf K) (hr : RecG K d r) (h : Inv K d s) : G K d s 1 [] (pfield K r s) (fun v => [v]) := by
  unfold pfield
  split
  · refine (G.bind (k2 := 0) (hr.typ _ h) (fun t s1 _ h1 l1 => ?_)).le HS
    exact pnode_g h1 (by decide) rfl
  split
  · refine (G.bind (k2 := 0) (pnamed_g w hr h) (fun t s1 _ h1 l1 => ?_)).le HS
    exact pnode_g h1 (by decide) rfl
  refine (G.bind (k2 := 0) (pof_g w h (by decide)) (fun nm s1 _ h1 l1 => ?_)).le HS
  refine (G.bind (k2 := 0) (hr.typ _ h1) (fun t s2 _ h2 l2 => ?_)).le HS
  exact pnode_g h2 (by decide) rfl
theorem pelem_g (w : Wf K) (hr : RecG K d r) (h : Inv K d s) : G K d s 1 [] (pelem K r s) (fun v => [v]) := by
  unfold pelem
  split
  · refine (G.bind (k2 := 0) (pof_g w h (by decide)) (fun nm s1 _ h1 l1 => ?_)).le HS
    refine (G.bind (k2 := 0) (psignature_g w hr h1 _) (fun f s2 _ h2 l2 => ?_)).le HS
    exact pnode_g h2 (by decide) rfl
  exact hr.union s h
theorem pliteral_g (w : Wf K) (hr : RecG K d r) (h : Inv K d s) : G K d s 1 [] (pliteral K r s) (fun v => [v]) := by
  unfold pliteral
  refine G.when w h (k1 := 0) (fun _ h1 => ?_) (fun _ => ?_) HS
  · refine G.when w h1 (k1 := 0) (fun _ h2 => ?_) (fun _ => ?_) HS
    · refine (G.bind (k2 := 0) (hr.typ _ h2) (fun t s1 _ h3 l1 => ?_)).le HS
      exact pnode_g h3 (by decide) rfl
    refine (G.bind (k2 := 0) (hr.expr _ _ h1) (fun m s2 _ h2 l2 => ?_)).le HS
    refine (G.bind (k2 := 0) ((pmust_g w h2).keep [m]) (fun _ s3 _ h3 l3 => ?_)).le HS
    refine (G.bind (k2 := 0) ((hr.typ _ h3).with [m]) (fun t s4 _ h4 l4 => ?_)).le HS
    exact pnode_g h4 (by decide) rfl
  refine G.when w h (k1 := 0) (fun _ h1 => ?_) (fun _ => ?_) HS
  · refine (G.bind (k2 := 0) (pmust_g w h1) (fun _ s2 _ h2 l2 => ?_)).le HS
    refine (G.bind (k2 := 0) (hr.typ _ h2) (fun m s3 _ h3 l3 => ?_)).le HS
    refine (G.bind (k2 := 0) ((pmust_g w h3).keep [m]) (fun _ s4 _ h4 l4 => ?_)).le HS
    refine (G.bind (k2 := 0) ((hr.typ _ h4).with [m]) (fun t s5 _ h5 l5 => ?_)).le HS
    exact pnode_g h5 (by decide) rfl
  refine G.when w h (k1 := 0) (fun _ h1 => (psignature_g w hr h1 _).le HS) (fun _ => ?_) HS
  refine G.when w h (k1 := 0) (fun _ h1 => ?_) (fun _ => ?_) HS
  · refine (G.bind (k2 := 0) (plines_g w (fun _ h2 => pfield_g w hr h2) h1) (fun l s2 _ h2 l2 => ?_)).le HS
    exact pnode_g h2 (by decide) (by simp [kidsOk])
  refine G.when w h (k1 := 0) (fun _ h1 => ?_) (fun _ => G.fail h (.inl HQ)) HS
  refine (G.bind (k2 := 0) (plines_g w (fun _ h2 => pelem_g w hr h2) h1) (fun l s2 _ h2 l2 => ?_)).le HS
  exact pnode_g h2 (by decide) (by simp [kidsOk])
theorem pbare_g (w : Wf K) (hr : RecG K d r) (h : Inv K d s) : G K d s 1 [] (pbare K r s) (fun v => [v]) := by
  unfold pbare
  split
  · exact pnamed_g w hr h
  refine G.when w h (k1 := 0) (fun _ h1 => ?_) (fun _ => ?_) HS
  · refine (G.bind (k2 := 0) (hr.typ _ h1) (fun t s2 _ h2 l2 => ?_)).le HS
    exact pnode_g h2 (by decide) rfl
  refine G.when w h (k1 := 0) (fun _ h1 => ?_) (fun _ => pliteral_g w hr h) HS
  refine (G.bind (k2 := 0) (hr.typ _ h1) (fun t s2 _ h2 l2 => ?_)).le HS
  refine (G.bind (k2 := 0) ((pmust_g w h2).keep [t]) (fun _ s3 _ h3 l3 => ?_)).le HS
  exact pnode_g h3 (by decide) rfl
theorem punionF_g (w : Wf K) (hr : RecG K d r) (a : Nat) : ∀ (f : Nat) (s : PS) (out : List Int), Inv K d s → K.length ≤ f + s.i → G K d s 1 out (punionF K r a f out s) (fun v => [v])
  | 0, s, out, h, hf => by have := h.i; omega
  | f + 1, s, out, h, hf => by
    unfold punionF
    refine (G.bind (k1 := 0) (k2 := 1) (q := fun _ => out) (G.when w h (k1 := 0) (fun _ h1 => G.ret (q := fun _ => out) h1) (fun _ => G.ret (q := fun _ => out) h) HS) (fun x s1 _ h1 l1 => ?_)).le HS
    refine (G.bind (k2 := 0) ((hr.typ _ h1).with out) (fun t s2 _ h2 l2 => ?_)).le HS
    refine (G.bind (k2 := 0) ((pnode_g h2 (by decide) HQ).frame out) (fun v s3 _ h3 l3 => ?_)).le HS
    refine G.when w h3 (k1 := 0) (fun _ h4 => (punionF_g w hr a f _ _ h4 (by show K.length ≤ f + (s3.i + 1); omega)).le HS) (fun _ => ?_) HS
    exact pnode_g h3 (by decide) (by simp [kidsOk])
theorem punion_g (w : Wf K) (hr : RecG K d r) (h : Inv K d s) : G K d s 1 [] (punion K r s) (fun v => [v]) := punionF_g w hr _ _ _ _ h HS
theorem binds_ne {t : Tk} (h : ¬ bindsB t = 0) : t.1 ≠ 0 := by
  intro e
  apply h
  simp [bindsB, isB, e]
theorem pexprF_g (w : Wf K) (hr : RecG K d r) (n a : Nat) : ∀ (f : Nat) (s : PS) (x : Int), Inv K d s → K.length ≤ f + s.i → G K d s 0 [x] (pexprF K r n a f x s) (fun v => [v])
  | 0, s, out, h, hf => by have := h.i; omega
  | f + 1, s, x, h, hf => by
    unfold pexprF
    split
    · exact G.ret (q := fun v => [v]) h
    rename_i hc
    have h1 := h.next w (binds_ne (fun e => hc (.inr e)))
    refine (G.next (k := 0) ?_).le HS
    refine (G.bind (k2 := 0) ((hr.expr _ _ h1).with [x]) (fun y s2 _ h2 l2 => ?_)).le HS
    refine (G.bind (k2 := 0) (pnode_g h2 (by decide) HQ) (fun v s3 _ h3 l3 => ?_)).le HS
    exact pexprF_g w hr n a f s3 v h3 (by have : s.i + 1 + 1 ≤ s2.i := l2; omega)
theorem pexpr_g (w : Wf K) (hr : RecG K d r) (h : Inv K d s) (n : Nat) : G K d s 1 [] (pexpr K r n s) (fun v => [v]) := by
  unfold pexpr
  refine (G.bind (k2 := 0) (hr.unary _ h) (fun y s2 _ h2 l2 => ?_)).le HS
  exact pexprF_g w hr _ _ _ _ _ h2 HS
theorem poperand_g (w : Wf K) (hr : RecG K d r) (h : Inv K d s) : G K d s 1 [] (poperand K r s) (fun v => [v]) := by
  unfold poperand
  split
  · rename_i hc
    exact (pnode_g (h.next w HS) HS (by rcases hc with e | e | e | e | e <;> rw [e] <;> rfl)).next
  refine G.when w h (k1 := 0) (fun _ h1 => ?_) (fun _ => pliteral_g w hr h) HS
  refine (G.bind (k2 := 0) (hr.expr _ _ h1) (fun t s2 _ h2 l2 => ?_)).le HS
  refine (G.bind (k2 := 0) ((pmust_g w h2).keep [t]) (fun _ s3 _ h3 l3 => ?_)).le HS
  exact pnode_g h3 (by decide) rfl
theorem pprimF_g (w : Wf K) (hr : RecG K d r) (a : Nat) : ∀ (f : Nat) (s : PS) (x : Int), Inv K d s → K.length ≤ f + s.i → G K d s 0 [x] (pprimF K r a f x s) (fun v => [v])
  | 0, s, out, h, hf => by have := h.i; omega
  | f + 1, s, x, h, hf => by
    unfold pprimF
    refine G.when w h (k1 := 0) (fun _ h1 => ?_) (fun _ => ?_) HS
    · have e1 : s.next.i = s.i + 1 := rfl
      refine (G.bind (k2 := 0) ((pof_g w h1 (by decide)).keep [x]) (fun t s2 _ h2 l2 => ?_)).le HS
      refine (G.bind (k2 := 0) (pnode_g h2 (by decide) HQ) (fun v s3 _ h3 l3 => ?_)).le HS
      exact pprimF_g w hr a f s3 v h3 HS
    refine G.when w h (k1 := 0) (fun _ h1 => ?_) (fun _ => ?_) HS
    · have e1 : s.next.i = s.i + 1 := rfl
      refine (G.bind (k1 := 0) (k2 := 0) (q := fun l => l) (G.when w h1 (k1 := 0) (fun _ h2 => G.ret (a := [x]) (q := fun l => l) h2) (fun _ => ?_) HS) (fun l s2 e2 h2 l2 => ?_)).le HS
      · refine (G.bind (k2 := 0) ((plist_g w (hr.expr 1) h1).with [x]) (fun l s3 _ h3 l3 => ?_)).le HS
        exact G.ret (a := x :: l) (q := fun l => l) h3
      have hl : l ≠ [] := by
        unfold pwhen at e2
        split at e2
        · injection e2 with e2; injection e2 with e2 _; subst e2; simp
        unfold PM.bind at e2
        split at e2
        · injection e2 with e2; injection e2 with e2 _; subst e2; simp
        cases e2
      refine (G.bind (k2 := 0) (pnode_g h2 (by decide) (by cases l <;> simp_all [kidsOk, Nat.ble])) (fun v s3 _ h3 l3 => ?_)).le HS
      exact pprimF_g w hr a f s3 v h3 HS
    refine G.when w h (k1 := 0) (fun _ h1 => ?_) (fun _ => G.ret (q := fun v => [v]) h) HS
    have e1 : s.next.i = s.i + 1 := rfl
    refine (G.bind (k2 := 0) ((plist_g w (hr.expr 1) h1).with [x]) (fun l s2 e2 h2 l2 => ?_)).le HS
    have := plistF_ne _ _ _ _ _ e2
    refine (G.bind (k2 := 0) (pnode_g h2 (by decide) (by cases l <;> simp_all [kidsOk, Nat.ble])) (fun v s3 _ h3 l3 => ?_)).le HS
    exact pprimF_g w hr a f s3 v h3 HS
theorem pprimary_g (w : Wf K) (hr : RecG K d r) (h : Inv K d s) : G K d s 1 [] (pprimary K r s) (fun v => [v]) := by
  unfold pprimary
  refine (G.bind (k2 := 0) (poperand_g w hr h) (fun y s2 _ h2 l2 => ?_)).le HS
  exact pprimF_g w hr _ _ _ _ h2 HS
theorem punary_g (w : Wf K) (hr : RecG K d r) (h : Inv K d s) : G K d s 1 [] (punary K r s) (fun v => [v]) := by
  unfold punary
  split
  · rename_i hc
    refine (G.next (k := 0) ?_).le HS
    have h1 := h.next w (isB_ne hc)
    refine (G.bind (k2 := 0) (hr.unary _ h1) (fun t s2 _ h2 l2 => ?_)).le HS
    exact pnode_g h2 (by decide) rfl
  exact pprimary_g w hr h
theorem pnested_g {m : PM Int} (hm : ∀ s, Inv K d s → G K d s 1 [] (m s) (fun v => [v])) {s : PS} (h : Inv K (d + 1) s) : G K (d + 1) s 1 [] (pnested m s) (fun v => [v]) := by
  unfold pnested
  split
  · exact ⟨h.i, .inr (.inl rfl)⟩
  have h1 : Inv K d s.down := ⟨h.i, by have := h.deep; show s.deep + 1 + d = 40; omega, h.many⟩
  have := hm _ h1
  unfold PM.bind
  match m s.down, this with
  | .error (i, e), h => exact h
  | .ok (a, s'), ⟨g1, g2, g3⟩ => exact ⟨⟨g1.i, by have := g1.deep; have := h.deep; show s'.deep - 1 + (d + 1) = 40; omega, g1.many⟩, g2, g3⟩
theorem lev_g (w : Wf K) : ∀ d, RecG K d (lev K d)
  | 0 => ⟨fun _ h => G.fail h (.inr (.inl rfl)), fun _ h => G.fail h (.inr (.inl rfl)), fun _ _ h => G.fail h (.inr (.inl rfl)), fun _ h => G.fail h (.inr (.inl rfl))⟩
  | d + 1 => ⟨fun _ h => pnested_g (fun _ h => pbare_g w (lev_g w d) h) h, fun _ h => pnested_g (fun _ h => punion_g w (lev_g w d) h) h, fun n _ h => pnested_g (fun _ h => pexpr_g w (lev_g w d) h n) h, fun _ h => pnested_g (fun _ h => punary_g w (lev_g w d) h) h⟩
theorem ptypes_g (w : Wf K) (hr : RecG K d r) (h : Inv K d s) (has : Bool) : G K d s 0 [] (ptypes K r has s) (fun v => [v]) := by
  unfold ptypes
  split
  · refine (G.bind (k2 := 0) (pmust_g w h) (fun _ s1 _ h1 l1 => ?_)).le HS
    refine (G.bind (k2 := 0) (plist_g w (fun s3 h3 => ?_) h1) (fun l s2 _ h2 l2 => ?_)).le HS
    · refine (G.bind (k2 := 0) (pof_g w h3 (by decide)) (fun nm s4 _ h4 l4 => ?_)).le HS
      refine (G.bind (k2 := 0) (hr.union _ h4) (fun t s5 _ h5 l5 => ?_)).le HS
      exact pnode_g h5 (by decide) rfl
    exact pnode_g h2 (by decide) (by simp [kidsOk])
  exact pnode_g h (by decide) (by simp [kidsOk])
theorem punless_g (hr : RecG K d r) (h : Inv K d s) (x : Bs) : G K d s 0 [] (punless K r x s) (fun v => [v]) := by
  unfold punless
  split
  · exact pnone_g h
  exact (hr.typ _ h).le HS
theorem pbody_g (w : Wf K) (hr : RecG K d r) (h : Inv K d s) : G K d s 1 [] (pbody K r s) (fun v => [v]) := by
  unfold pbody
  refine (G.bind (k2 := 0) (pmust_g w h) (fun _ s1 _ h1 l1 => ?_)).le HS
  refine G.when w h1 (k1 := 0) (fun _ h2 => ?_) (fun _ => ?_) HS
  · refine (G.bind (k1 := 0) (k2 := 0) (q := fun v => [v]) ?_ (fun v s3 _ h3 l3 => ?_)).le HS
    · show G K d _ 0 [] (if _ then _ else _) _
      split
      · exact pnone_g h2
      exact (hr.expr _ _ h2).le HS
    refine (G.bind (k1 := 0) (k2 := 0) (q := fun _ => [v]) ?_ (fun _ s4 _ h4 l4 => ?_)).le HS
    · show G K d _ 0 _ (if _ then _ else _) _
      split
      · rename_i hc
        exact (G.ret (q := fun _ => [v]) (h3.next w (isB_ne hc))).next.le HS
      exact G.ret (q := fun _ => [v]) h3
    refine (G.bind (k2 := 0) ((pmust_g w h4).keep [v]) (fun _ s5 _ h5 l5 => ?_)).le HS
    exact pnode_g h5 (by decide) rfl
  refine (G.bind (k2 := 0) (pnone_g h1) (fun v s3 _ h3 l3 => ?_)).le HS
  refine (G.bind (k2 := 0) ((pmust_g w h3).keep [v]) (fun _ s5 _ h5 l5 => ?_)).le HS
  exact pnode_g h5 (by decide) rfl
theorem pfunction_g (w : Wf K) (hr : RecG K d r) (h : Inv K d s) (a : Nat) : G K d s 1 [] (pfunction K r a s) (fun v => [v]) := by
  unfold pfunction
  refine (G.bind (k1 := 0) (k2 := 1) (q := fun v => [v]) (G.when w h (k1 := 0) (fun _ h1 => ?_) (fun _ => pnone_g h) HS) (fun rv s2 _ h2 l2 => ?_)).le HS
  · refine (G.bind (k2 := 0) (pof_g w h1 (by decide)) (fun nm s4 _ h4 l4 => ?_)).le HS
    refine (G.bind (k2 := 0) (hr.typ _ h4) (fun t s5 _ h5 l5 => ?_)).le HS
    refine (G.bind (k2 := 0) ((pmust_g w h5).keep [t]) (fun _ s6 _ h6 l6 => ?_)).le HS
    exact pnode_g h6 (by decide) rfl
  refine (G.bind (k2 := 0) ((pof_g w h2 (by decide)).keep [rv]) (fun nm s3 _ h3 l3 => ?_)).le HS
  refine (G.bind (k2 := 0) ((ptypes_g w hr h3 _).with [rv]) (fun ty s4 _ h4 l4 => ?_)).le HS
  refine (G.bind (k2 := 0) ((psignature_g w hr h4 _).with [rv, ty]) (fun sg s5 _ h5 l5 => ?_)).le HS
  refine (G.bind (k2 := 0) ((pbody_g w hr h5).with [rv, ty, sg]) (fun b s6 _ h6 l6 => ?_)).le HS
  exact pnode_g h6 (by decide) rfl
theorem pdecl_g (w : Wf K) (hr : RecG K d r) (h : Inv K d s) : G K d s 1 [] (pdecl K r s) (fun v => [v]) := by
  unfold pdecl
  refine G.when w h (k1 := 0) (fun _ h1 => ?_) (fun _ => ?_) HS
  · refine (G.bind (k2 := 0) (pof_g w h1 (by decide)) (fun nm s2 _ h2 l2 => ?_)).le HS
    refine (G.bind (k2 := 0) (punless_g hr h2 _) (fun t s3 _ h3 l3 => ?_)).le HS
    refine (G.bind (k2 := 0) ((pmust_g w h3).keep [t]) (fun _ s4 _ h4 l4 => ?_)).le HS
    refine (G.bind (k2 := 0) ((hr.expr _ _ h4).with [t]) (fun v s5 _ h5 l5 => ?_)).le HS
    exact pnode_g h5 (by decide) rfl
  refine G.when w h (k1 := 0) (fun _ h1 => ?_) (fun _ => ?_) HS
  · refine (G.bind (k2 := 0) (pof_g w h1 (by decide)) (fun nm s2 _ h2 l2 => ?_)).le HS
    refine (G.bind (k2 := 0) (punless_g hr h2 _) (fun t s3 _ h3 l3 => ?_)).le HS
    refine G.when w h3 (k1 := 0) (fun _ h4 => ?_) (fun _ => ?_) HS
    · refine (G.bind (k2 := 0) ((hr.expr _ _ h4).with [t]) (fun v s5 _ h5 l5 => ?_)).le HS
      exact pnode_g h5 (by decide) rfl
    refine (G.bind (k2 := 0) ((pnone_g h3).with [t]) (fun v s5 _ h5 l5 => ?_)).le HS
    exact pnode_g h5 (by decide) rfl
  refine G.when w h (k1 := 0) (fun _ h1 => ?_) (fun _ => ?_) HS
  · refine (G.bind (k2 := 0) (pof_g w h1 (by decide)) (fun nm s2 _ h2 l2 => ?_)).le HS
    refine (G.bind (k2 := 0) (ptypes_g w hr h2 _) (fun ts s3 _ h3 l3 => ?_)).le HS
    refine (G.bind (k2 := 0) ((hr.typ _ h3).with [ts]) (fun t s4 _ h4 l4 => ?_)).le HS
    exact pnode_g h4 (by decide) rfl
  exact G.when w h (k1 := 0) (fun _ h1 => (pfunction_g w hr h1 _).le HS) (fun _ => G.fail h (.inl rfl)) HS
theorem pimportsF_g (w : Wf K) : ∀ (f : Nat) (s : PS) (out : List Int), Inv K d s → K.length ≤ f + s.i → G K d s 0 out (pimportsF K f out s) (fun l => l)
  | 0, s, out, h, hf => by have := h.i; omega
  | f + 1, s, out, h, hf => by
    unfold pimportsF
    split
    · rename_i hc
      have h1 := h.next w (isB_ne hc)
      have e1 : s.next.i = s.i + 1 := rfl
      refine (G.next (k := 0) ?_).le HS
      refine (G.bind (k2 := 0) ((pof_g w h1 (by decide)).keep out) (fun t s2 _ h2 l2 => ?_)).le HS
      refine (G.bind (k2 := 0) ((pnode_g h2 (by decide) HQ).with out) (fun v s3 _ h3 l3 => ?_)).le HS
      refine (G.bind (k2 := 0) ((psemi_g w h3).keep _) (fun _ s4 _ h4 l4 => ?_)).le HS
      exact pimportsF_g w f s4 _ h4 HS
    exact G.ret (q := fun l => l) h
theorem pdeclsF_g (w : Wf K) (hr : RecG K d r) : ∀ (f : Nat) (s : PS) (out : List Int), Inv K d s → K.length ≤ f + s.i → G K d s 0 out (pdeclsF K r f out s) (fun l => l)
  | 0, s, out, h, hf => by have := h.i; omega
  | f + 1, s, out, h, hf => by
    unfold pdeclsF
    split
    · exact G.ret (q := fun l => l) h
    refine (G.bind (k2 := 0) ((pdecl_g w hr h).with out) (fun t s2 _ h2 l2 => ?_)).le HS
    refine (G.bind (k2 := 0) ((psemi_g w h2).keep _) (fun _ s4 _ h4 l4 => ?_)).le HS
    exact pdeclsF_g w hr f s4 _ h4 HS
theorem pfile_g (w : Wf K) (hr : RecG K d r) (h : Inv K d s) : G K d s 1 [] (pfile K r s) (fun v => [v]) := by
  unfold pfile
  refine (G.bind (k2 := 0) (pmust_g w h) (fun _ s1 _ h1 l1 => ?_)).le HS
  refine (G.bind (k2 := 0) (pof_g w h1 (by decide)) (fun nm s2 _ h2 l2 => ?_)).le HS
  refine (G.bind (k2 := 0) (psemi_g w h2) (fun _ s3 _ h3 l3 => ?_)).le HS
  refine (G.bind (k2 := 0) (pimportsF_g w _ _ _ h3 HS) (fun l s4 _ h4 l4 => ?_)).le HS
  refine (G.bind (k2 := 0) (pdeclsF_g w hr _ _ _ h4 HS) (fun l s5 _ h5 l5 => ?_)).le HS
  exact pnode_g h5 (by decide) (by simp [kidsOk])
end
end Go.Sy
namespace Go.Sy
abbrev GS := @isB_ne
abbrev HA := @pmust_g
end Go.Sy
