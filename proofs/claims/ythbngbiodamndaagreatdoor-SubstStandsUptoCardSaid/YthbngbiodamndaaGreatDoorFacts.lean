/- What the rules of the symbolic states ask of this program's tables, each a closed fact. Printed by a program of mine (gen.py). -/
import Derived.Test.YthbngbiodamndaaGreatDoorProg
import Derived.Test.YthbngbiodamndaaGreatDoorFwM
import Derived.KernelRfl
namespace Go.Sy
open Go Go.Proofs
set_option maxRecDepth 100000
instance : ScT Tryz.prog 3 := ScT.of Tryz.underlying3 rfl (by kernel_rfl)
instance : ScT Tryz.prog 4 := ScT.of Tryz.underlying4 rfl (by kernel_rfl)
instance : ScT Tryz.prog 5 := ScT.of Tryz.underlying5 rfl (by kernel_rfl)
instance : ScT Tryz.prog 9 := ScT.of Tryz.underlying9 rfl (by kernel_rfl)
instance : ScT Tryz.prog 22 := ScT.of Tryz.underlying22 rfl (by kernel_rfl)
instance : ScT Tryz.prog 23 := ScT.of Tryz.underlying23 rfl (by kernel_rfl)
instance : ScT Tryz.prog 25 := ScT.of Tryz.underlying25 rfl (by kernel_rfl)
instance : AgT Tryz.prog 33 3 := AgT.of Tryz.underlying33 (by kernel_rfl)
instance : ScT Tryz.prog 38 := ScT.of Tryz.underlying38 rfl (by kernel_rfl)
instance : AgT Tryz.prog 40 5 := AgT.of Tryz.underlying40 (by kernel_rfl)
instance : AgT Tryz.prog 64 2 := AgT.of Tryz.underlying64 (by kernel_rfl)
instance : AgT Tryz.prog 69 6 := AgT.of Tryz.underlying69 (by kernel_rfl)
instance : ScT Tryz.prog 76 := ScT.of Tryz.underlying76 rfl (by kernel_rfl)
instance : AgT Tryz.prog 78 2 := AgT.of Tryz.underlying78 (by kernel_rfl)
instance : ScT Tryz.prog 84 := ScT.of Tryz.underlying84 rfl (by kernel_rfl)
instance : ScT Tryz.prog 85 := ScT.of Tryz.underlying85 rfl (by kernel_rfl)
instance : AgT Tryz.prog 87 2 := AgT.of Tryz.underlying87 (by kernel_rfl)
instance : ScT Tryz.prog 109 := ScT.of Tryz.underlying109 rfl (by kernel_rfl)
instance : ScT Tryz.prog 117 := ScT.of Tryz.underlying117 rfl (by kernel_rfl)
instance : ZeT Tryz.prog 3 (.int .i64 0) := ZeT.of (by kernel_rfl)
instance : ZeT Tryz.prog 4 (.bool false) := ZeT.of (by kernel_rfl)
instance : ZeT Tryz.prog 5 (.int .u8 0) := ZeT.of (by kernel_rfl)
instance : ZeT Tryz.prog 9 (.string ⟨#[]⟩) := ZeT.of (by kernel_rfl)
instance : ZeT Tryz.prog 33 (.agg #[.slice none 0 0, .int .i64 0, .int .i64 0]) := ZeT.of (by kernel_rfl)
instance : ZeT Tryz.prog 40 (.agg #[.int .i64 0, .string ⟨#[]⟩, .int .i64 0, .slice none 0 0, .slice none 0 0]) := ZeT.of (by kernel_rfl)
instance : ZeT Tryz.prog 64 (.agg #[.string ⟨#[]⟩, .int .i64 0]) := ZeT.of (by kernel_rfl)
instance : ZeT Tryz.prog 69 (.agg #[.int .i64 0, .int .i64 0, .string ⟨#[]⟩, .string ⟨#[]⟩, .string ⟨#[]⟩, .string ⟨#[]⟩]) := ZeT.of (by kernel_rfl)
instance : ZeT Tryz.prog 87 (.agg #[.pointer none, .slice none 0 0]) := ZeT.of (by kernel_rfl)
instance : ZeT Tryz.prog 117 (.int .u64 0) := ZeT.of (by kernel_rfl)
instance : ZeT Tryz.prog 129 (.agg #[.int .u8 0, .int .u8 0, .int .u8 0, .int .u8 0, .int .u8 0, .int .u8 0, .int .u8 0, .int .u8 0, .int .u8 0, .int .u8 0, .int .u8 0, .int .u8 0, .int .u8 0, .int .u8 0, .int .u8 0, .int .u8 0, .int .u8 0, .int .u8 0, .int .u8 0, .int .u8 0, .int .u8 0, .int .u8 0, .int .u8 0, .int .u8 0]) := ZeT.of (by kernel_rfl)
instance : FdT Tryz.prog 33 0 0 := FdT.of (k := 1) Tryz.underlying33 rfl rfl (by kernel_rfl) rfl
instance : FdT Tryz.prog 33 1 1 := FdT.of (k := 1) Tryz.underlying33 rfl rfl (by kernel_rfl) rfl
instance : FdT Tryz.prog 33 2 2 := FdT.of (k := 1) Tryz.underlying33 rfl rfl (by kernel_rfl) rfl
instance : FdT Tryz.prog 40 0 0 := FdT.of (k := 1) Tryz.underlying40 rfl rfl (by kernel_rfl) rfl
instance : FdT Tryz.prog 40 1 1 := FdT.of (k := 1) Tryz.underlying40 rfl rfl (by kernel_rfl) rfl
instance : FdT Tryz.prog 40 2 2 := FdT.of (k := 1) Tryz.underlying40 rfl rfl (by kernel_rfl) rfl
instance : FdT Tryz.prog 40 3 3 := FdT.of (k := 1) Tryz.underlying40 rfl rfl (by kernel_rfl) rfl
instance : FdT Tryz.prog 40 4 4 := FdT.of (k := 1) Tryz.underlying40 rfl rfl (by kernel_rfl) rfl
instance : FdT Tryz.prog 64 0 0 := FdT.of (k := 1) Tryz.underlying64 rfl rfl (by kernel_rfl) rfl
instance : FdT Tryz.prog 64 1 1 := FdT.of (k := 1) Tryz.underlying64 rfl rfl (by kernel_rfl) rfl
instance : FdT Tryz.prog 69 3 3 := FdT.of (k := 1) Tryz.underlying69 rfl rfl (by kernel_rfl) rfl
instance : FdT Tryz.prog 69 4 4 := FdT.of (k := 1) Tryz.underlying69 rfl rfl (by kernel_rfl) rfl
instance : FdT Tryz.prog 69 5 5 := FdT.of (k := 1) Tryz.underlying69 rfl rfl (by kernel_rfl) rfl
instance : FdT Tryz.prog 78 0 0 := FdT.of (k := 1) Tryz.underlying78 rfl rfl (by kernel_rfl) rfl
instance : FdT Tryz.prog 78 1 1 := FdT.of (k := 1) Tryz.underlying78 rfl rfl (by kernel_rfl) rfl
instance : FdT Tryz.prog 87 0 0 := FdT.of (k := 1) Tryz.underlying87 rfl rfl (by kernel_rfl) rfl
instance : FdT Tryz.prog 87 1 1 := FdT.of (k := 1) Tryz.underlying87 rfl rfl (by kernel_rfl) rfl
instance : BoT Tryz.prog 4 := ⟨Tryz.underlying4⟩
instance : StT Tryz.prog 9 := ⟨Tryz.underlying9⟩
instance : SlT Tryz.prog 22 40 5 80 := SlT.of Tryz.underlying22 (by kernel_rfl) rfl
instance : SlT Tryz.prog 23 3 1 8 := SlT.of Tryz.underlying23 (by kernel_rfl) rfl
instance : SlT Tryz.prog 38 9 1 16 := SlT.of Tryz.underlying38 (by kernel_rfl) rfl
instance : MpT Tryz.prog 44 3 3 := ⟨Tryz.underlying44⟩
instance : KyT Tryz.prog 3 (fun i : Int => .int .i64 i) := KyT.int Tryz.underlying3
instance : SlT Tryz.prog 45 4 1 1 := SlT.of Tryz.underlying45 (by kernel_rfl) rfl
instance : SlT Tryz.prog 60 64 2 24 := SlT.of Tryz.underlying60 (by kernel_rfl) rfl
instance : MpT Tryz.prog 76 3 9 := ⟨Tryz.underlying76⟩
instance : MpT Tryz.prog 80 69 4 := ⟨Tryz.underlying80⟩
instance : SlT Tryz.prog 85 5 1 1 := SlT.of Tryz.underlying85 (by kernel_rfl) rfl
instance : MpT Tryz.prog 111 9 4 := ⟨Tryz.underlying111⟩
instance : KyT Tryz.prog 9 S := KyT.str Tryz.underlying9
instance : BdT Tryz.prog 33 [.slice none 0 0, .int .i64 0, .int .i64 0] [(0, 1), (1, 1), (2, 1)] := BdT.of Tryz.underlying33 (by kernel_rfl) (by kernel_rfl)
instance : BdT Tryz.prog 40 [.int .i64 0, .string ⟨#[]⟩, .int .i64 0, .slice none 0 0, .slice none 0 0] [(0, 1), (1, 1), (2, 1), (3, 1), (4, 1)] := BdT.of Tryz.underlying40 (by kernel_rfl) (by kernel_rfl)
instance : BdT Tryz.prog 64 [.string ⟨#[]⟩, .int .i64 0] [(0, 1), (1, 1)] := BdT.of Tryz.underlying64 (by kernel_rfl) (by kernel_rfl)
instance : BdT Tryz.prog 69 [.int .i64 0, .int .i64 0, .string ⟨#[]⟩, .string ⟨#[]⟩, .string ⟨#[]⟩, .string ⟨#[]⟩] [(0, 1), (1, 1), (2, 1), (3, 1), (4, 1), (5, 1)] := BdT.of Tryz.underlying69 (by kernel_rfl) (by kernel_rfl)
instance : BdT Tryz.prog 78 [.slice none 0 0, .map none] [(0, 1), (1, 1)] := BdT.of Tryz.underlying78 (by kernel_rfl) (by kernel_rfl)
instance : BdT Tryz.prog 87 [.pointer none, .slice none 0 0] [(0, 1), (1, 1)] := BdT.of Tryz.underlying87 (by kernel_rfl) (by kernel_rfl)
instance : MxT Tryz.prog := ⟨by kernel_rfl⟩
instance : FnT Tryz.prog 2 := FnT.of Tryz.func2 (by kernel_rfl) (by kernel_rfl)
instance : FnT Tryz.prog 3 := FnT.of Tryz.func3 (by kernel_rfl) (by kernel_rfl)
instance : FnT Tryz.prog 4 := FnT.of Tryz.func4 (by kernel_rfl) (by kernel_rfl)
instance : FnT Tryz.prog 5 := FnT.of Tryz.func5 (by kernel_rfl) (by kernel_rfl)
instance : FnT Tryz.prog 6 := FnT.of Tryz.func6 (by kernel_rfl) (by kernel_rfl)
instance : FnT Tryz.prog 7 := FnT.of Tryz.func7 (by kernel_rfl) (by kernel_rfl)
instance : FnT Tryz.prog 8 := FnT.of Tryz.func8 (by kernel_rfl) (by kernel_rfl)
instance : FnT Tryz.prog 9 := FnT.of Tryz.func9 (by kernel_rfl) (by kernel_rfl)
instance : FnT Tryz.prog 10 := FnT.of Tryz.func10 (by kernel_rfl) (by kernel_rfl)
instance : FnT Tryz.prog 11 := FnT.of Tryz.func11 (by kernel_rfl) (by kernel_rfl)
instance : FnT Tryz.prog 12 := FnT.of Tryz.func12 (by kernel_rfl) (by kernel_rfl)
instance : FnT Tryz.prog 13 := FnT.of Tryz.func13 (by kernel_rfl) (by kernel_rfl)
instance : FnT Tryz.prog 14 := FnT.of Tryz.func14 (by kernel_rfl) (by kernel_rfl)
instance : FnT Tryz.prog 15 := FnT.of Tryz.func15 (by kernel_rfl) (by kernel_rfl)
instance : FnT Tryz.prog 16 := FnT.of Tryz.func16 (by kernel_rfl) (by kernel_rfl)
instance : FnT Tryz.prog 17 := FnT.of Tryz.func17 (by kernel_rfl) (by kernel_rfl)
instance : FnT Tryz.prog 18 := FnT.of Tryz.func18 (by kernel_rfl) (by kernel_rfl)
instance : FnT Tryz.prog 19 := FnT.of Tryz.func19 (by kernel_rfl) (by kernel_rfl)
instance : FnT Tryz.prog 20 := FnT.of Tryz.func20 (by kernel_rfl) (by kernel_rfl)
instance : FnT Tryz.prog 21 := FnT.of Tryz.func21 (by kernel_rfl) (by kernel_rfl)
instance : FnT Tryz.prog 22 := FnT.of Tryz.func22 (by kernel_rfl) (by kernel_rfl)
instance : FnT Tryz.prog 23 := FnT.of Tryz.func23 (by kernel_rfl) (by kernel_rfl)
instance : FnT Tryz.prog 24 := FnT.of Tryz.func24 (by kernel_rfl) (by kernel_rfl)
instance : FnT Tryz.prog 25 := FnT.of Tryz.func25 (by kernel_rfl) (by kernel_rfl)
instance : FnT Tryz.prog 26 := FnT.of Tryz.func26 (by kernel_rfl) (by kernel_rfl)
instance : FnT Tryz.prog 27 := FnT.of Tryz.func27 (by kernel_rfl) (by kernel_rfl)
instance : FnT Tryz.prog 28 := FnT.of Tryz.func28 (by kernel_rfl) (by kernel_rfl)
instance : FnT Tryz.prog 29 := FnT.of Tryz.func29 (by kernel_rfl) (by kernel_rfl)
instance : FnT Tryz.prog 30 := FnT.of Tryz.func30 (by kernel_rfl) (by kernel_rfl)
instance : FnT Tryz.prog 31 := FnT.of Tryz.func31 (by kernel_rfl) (by kernel_rfl)
instance : FnT Tryz.prog 32 := FnT.of Tryz.func32 (by kernel_rfl) (by kernel_rfl)
instance : FnT Tryz.prog 33 := FnT.of Tryz.func33 (by kernel_rfl) (by kernel_rfl)
instance : FnT Tryz.prog 34 := FnT.of Tryz.func34 (by kernel_rfl) (by kernel_rfl)
instance : FnT Tryz.prog 35 := FnT.of Tryz.func35 (by kernel_rfl) (by kernel_rfl)
instance : FnT Tryz.prog 36 := FnT.of Tryz.func36 (by kernel_rfl) (by kernel_rfl)
instance : FnT Tryz.prog 37 := FnT.of Tryz.func37 (by kernel_rfl) (by kernel_rfl)
instance : FnT Tryz.prog 38 := FnT.of Tryz.func38 (by kernel_rfl) (by kernel_rfl)
instance : FnT Tryz.prog 39 := FnT.of Tryz.func39 (by kernel_rfl) (by kernel_rfl)
instance : FnT Tryz.prog 40 := FnT.of Tryz.func40 (by kernel_rfl) (by kernel_rfl)
instance : FnT Tryz.prog 41 := FnT.of Tryz.func41 (by kernel_rfl) (by kernel_rfl)
instance : FnT Tryz.prog 42 := FnT.of Tryz.func42 (by kernel_rfl) (by kernel_rfl)
instance : FnT Tryz.prog 43 := FnT.of Tryz.func43 (by kernel_rfl) (by kernel_rfl)
instance : FnT Tryz.prog 44 := FnT.of Tryz.func44 (by kernel_rfl) (by kernel_rfl)
instance : FnT Tryz.prog 45 := FnT.of Tryz.func45 (by kernel_rfl) (by kernel_rfl)
instance : FnT Tryz.prog 46 := FnT.of Tryz.func46 (by kernel_rfl) (by kernel_rfl)
instance : FnT Tryz.prog 47 := FnT.of Tryz.func47 (by kernel_rfl) (by kernel_rfl)
instance : FnT Tryz.prog 48 := FnT.of Tryz.func48 (by kernel_rfl) (by kernel_rfl)
instance : FnT Tryz.prog 49 := FnT.of Tryz.func49 (by kernel_rfl) (by kernel_rfl)
instance : FnT Tryz.prog 50 := FnT.of Tryz.func50 (by kernel_rfl) (by kernel_rfl)
instance : FnT Tryz.prog 51 := FnT.of Tryz.func51 (by kernel_rfl) (by kernel_rfl)
instance : FnT Tryz.prog 52 := FnT.of Tryz.func52 (by kernel_rfl) (by kernel_rfl)
instance : FnT Tryz.prog 53 := FnT.of Tryz.func53 (by kernel_rfl) (by kernel_rfl)
instance : FnT Tryz.prog 54 := FnT.of Tryz.func54 (by kernel_rfl) (by kernel_rfl)
instance : FnT Tryz.prog 55 := FnT.of Tryz.func55 (by kernel_rfl) (by kernel_rfl)
instance : FnT Tryz.prog 56 := FnT.of Tryz.func56 (by kernel_rfl) (by kernel_rfl)
instance : FnT Tryz.prog 57 := FnT.of Tryz.func57 (by kernel_rfl) (by kernel_rfl)
instance : FnT Tryz.prog 58 := FnT.of Tryz.func58 (by kernel_rfl) (by kernel_rfl)
instance : FnT Tryz.prog 59 := FnT.of Tryz.func59 (by kernel_rfl) (by kernel_rfl)
instance : FnT Tryz.prog 60 := FnT.of Tryz.func60 (by kernel_rfl) (by kernel_rfl)
instance : FnT Tryz.prog 61 := FnT.of Tryz.func61 (by kernel_rfl) (by kernel_rfl)
instance : FnT Tryz.prog 62 := FnT.of Tryz.func62 (by kernel_rfl) (by kernel_rfl)
instance : FnT Tryz.prog 63 := FnT.of Tryz.func63 (by kernel_rfl) (by kernel_rfl)
instance : FnT Tryz.prog 64 := FnT.of Tryz.func64 (by kernel_rfl) (by kernel_rfl)
instance : FnT Tryz.prog 65 := FnT.of Tryz.func65 (by kernel_rfl) (by kernel_rfl)
instance : FnT Tryz.prog 66 := FnT.of Tryz.func66 (by kernel_rfl) (by kernel_rfl)
instance : FnT Tryz.prog 67 := FnT.of Tryz.func67 (by kernel_rfl) (by kernel_rfl)
instance : FnT Tryz.prog 68 := FnT.of Tryz.func68 (by kernel_rfl) (by kernel_rfl)
instance : FnT Tryz.prog 69 := FnT.of Tryz.func69 (by kernel_rfl) (by kernel_rfl)
instance : FnT Tryz.prog 70 := FnT.of Tryz.func70 (by kernel_rfl) (by kernel_rfl)
instance : FnT Tryz.prog 71 := FnT.of Tryz.func71 (by kernel_rfl) (by kernel_rfl)
instance : FnT Tryz.prog 72 := FnT.of Tryz.func72 (by kernel_rfl) (by kernel_rfl)
instance : FnT Tryz.prog 73 := FnT.of Tryz.func73 (by kernel_rfl) (by kernel_rfl)
instance : FnT Tryz.prog 74 := FnT.of Tryz.func74 (by kernel_rfl) (by kernel_rfl)
instance : FnT Tryz.prog 75 := FnT.of Tryz.func75 (by kernel_rfl) (by kernel_rfl)
instance : FnT Tryz.prog 76 := FnT.of Tryz.func76 (by kernel_rfl) (by kernel_rfl)
instance : FnT Tryz.prog 77 := FnT.of Tryz.func77 (by kernel_rfl) (by kernel_rfl)
instance : FnT Tryz.prog 78 := FnT.of Tryz.func78 (by kernel_rfl) (by kernel_rfl)
instance : FnT Tryz.prog 79 := FnT.of Tryz.func79 (by kernel_rfl) (by kernel_rfl)
instance : FnT Tryz.prog 80 := FnT.of Tryz.func80 (by kernel_rfl) (by kernel_rfl)
instance : FnT Tryz.prog 81 := FnT.of Tryz.func81 (by kernel_rfl) (by kernel_rfl)
instance : FnT Tryz.prog 82 := FnT.of Tryz.func82 (by kernel_rfl) (by kernel_rfl)
instance : FnT Tryz.prog 83 := FnT.of Tryz.func83 (by kernel_rfl) (by kernel_rfl)
instance : FnT Tryz.prog 84 := FnT.of Tryz.func84 (by kernel_rfl) (by kernel_rfl)
instance : FnT Tryz.prog 85 := FnT.of Tryz.func85 (by kernel_rfl) (by kernel_rfl)
instance : FnT Tryz.prog 86 := FnT.of Tryz.func86 (by kernel_rfl) (by kernel_rfl)
instance : FnT Tryz.prog 87 := FnT.of Tryz.func87 (by kernel_rfl) (by kernel_rfl)
instance : FnT Tryz.prog 88 := FnT.of Tryz.func88 (by kernel_rfl) (by kernel_rfl)
instance : FnT Tryz.prog 90 := FnT.of Tryz.func90 (by kernel_rfl) (by kernel_rfl)
instance : FnT Tryz.prog 91 := FnT.of Tryz.func91 (by kernel_rfl) (by kernel_rfl)
instance : FnT Tryz.prog 92 := FnT.of Tryz.func92 (by kernel_rfl) (by kernel_rfl)
instance : FnT Tryz.prog 93 := FnT.of Tryz.func93 (by kernel_rfl) (by kernel_rfl)
instance : FnT Tryz.prog 94 := FnT.of Tryz.func94 (by kernel_rfl) (by kernel_rfl)
instance : FnT Tryz.prog 95 := FnT.of Tryz.func95 (by kernel_rfl) (by kernel_rfl)
instance : FnT Tryz.prog 96 := FnT.of Tryz.func96 (by kernel_rfl) (by kernel_rfl)
instance : FnT Tryz.prog 97 := FnT.of Tryz.func97 (by kernel_rfl) (by kernel_rfl)
instance : FnT Tryz.prog 98 := FnT.of Tryz.func98 (by kernel_rfl) (by kernel_rfl)
instance : FnT Tryz.prog 99 := FnT.of Tryz.func99 (by kernel_rfl) (by kernel_rfl)
instance : FnT Tryz.prog 100 := FnT.of Tryz.func100 (by kernel_rfl) (by kernel_rfl)
instance : FnT Tryz.prog 101 := FnT.of Tryz.func101 (by kernel_rfl) (by kernel_rfl)
instance : FnT Tryz.prog 103 := FnT.of Tryz.func103 (by kernel_rfl) (by kernel_rfl)
instance : FnT Tryz.prog 104 := FnT.of Tryz.func104 (by kernel_rfl) (by kernel_rfl)
instance : FnT Tryz.prog 105 := FnT.of Tryz.func105 (by kernel_rfl) (by kernel_rfl)
instance : FnT Tryz.prog 106 := FnT.of Tryz.func106 (by kernel_rfl) (by kernel_rfl)
instance : FnT Tryz.prog 107 := FnT.of Tryz.func107 (by kernel_rfl) (by kernel_rfl)
instance : FnT Tryz.prog 109 := FnT.of Tryz.func109 (by kernel_rfl) (by kernel_rfl)
instance : FnT Tryz.prog 110 := FnT.of Tryz.func110 (by kernel_rfl) (by kernel_rfl)
instance : FnT Tryz.prog 111 := FnT.of Tryz.func111 (by kernel_rfl) (by kernel_rfl)
instance : FnT Tryz.prog 112 := FnT.of Tryz.func112 (by kernel_rfl) (by kernel_rfl)
instance : FnT Tryz.prog 114 := FnT.of Tryz.func114 (by kernel_rfl) (by kernel_rfl)
end Go.Sy
