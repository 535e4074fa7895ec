/- What the rules of the symbolic states ask of this program's tables, each a closed fact. Printed by a program of mine (gen.py). -/
import Derived.Test.YthbngbiodamndaaDoorProg
import Derived.Test.YthbngbiodamndaaDoorFwM
import Derived.KernelRfl
namespace Go.Sy
open Go Go.Proofs
set_option maxRecDepth 100000
instance : ScT Tryd.prog 3 := ScT.of Tryd.underlying3 rfl (by kernel_rfl)
instance : ScT Tryd.prog 4 := ScT.of Tryd.underlying4 rfl (by kernel_rfl)
instance : ScT Tryd.prog 5 := ScT.of Tryd.underlying5 rfl (by kernel_rfl)
instance : ScT Tryd.prog 9 := ScT.of Tryd.underlying9 rfl (by kernel_rfl)
instance : ScT Tryd.prog 22 := ScT.of Tryd.underlying22 rfl (by kernel_rfl)
instance : ScT Tryd.prog 28 := ScT.of Tryd.underlying28 rfl (by kernel_rfl)
instance : ScT Tryd.prog 29 := ScT.of Tryd.underlying29 rfl (by kernel_rfl)
instance : AgT Tryd.prog 31 5 := AgT.of Tryd.underlying31 (by kernel_rfl)
instance : ScT Tryd.prog 33 := ScT.of Tryd.underlying33 rfl (by kernel_rfl)
instance : AgT Tryd.prog 37 3 := AgT.of Tryd.underlying37 (by kernel_rfl)
instance : AgT Tryd.prog 53 6 := AgT.of Tryd.underlying53 (by kernel_rfl)
instance : ScT Tryd.prog 64 := ScT.of Tryd.underlying64 rfl (by kernel_rfl)
instance : AgT Tryd.prog 66 2 := AgT.of Tryd.underlying66 (by kernel_rfl)
instance : ScT Tryd.prog 76 := ScT.of Tryd.underlying76 rfl (by kernel_rfl)
instance : ScT Tryd.prog 77 := ScT.of Tryd.underlying77 rfl (by kernel_rfl)
instance : AgT Tryd.prog 79 2 := AgT.of Tryd.underlying79 (by kernel_rfl)
instance : AgT Tryd.prog 94 2 := AgT.of Tryd.underlying94 (by kernel_rfl)
instance : ScT Tryd.prog 122 := ScT.of Tryd.underlying122 rfl (by kernel_rfl)
instance : ScT Tryd.prog 130 := ScT.of Tryd.underlying130 rfl (by kernel_rfl)
instance : ZeT Tryd.prog 3 (.int .i64 0) := ZeT.of (by kernel_rfl)
instance : ZeT Tryd.prog 4 (.bool false) := ZeT.of (by kernel_rfl)
instance : ZeT Tryd.prog 5 (.int .u8 0) := ZeT.of (by kernel_rfl)
instance : ZeT Tryd.prog 9 (.string ⟨#[]⟩) := ZeT.of (by kernel_rfl)
instance : ZeT Tryd.prog 31 (.agg #[.int .i64 0, .string ⟨#[]⟩, .int .i64 0, .slice none 0 0, .slice none 0 0]) := ZeT.of (by kernel_rfl)
instance : ZeT Tryd.prog 37 (.agg #[.slice none 0 0, .int .i64 0, .int .i64 0]) := ZeT.of (by kernel_rfl)
instance : ZeT Tryd.prog 53 (.agg #[.int .i64 0, .int .i64 0, .string ⟨#[]⟩, .string ⟨#[]⟩, .string ⟨#[]⟩, .string ⟨#[]⟩]) := ZeT.of (by kernel_rfl)
instance : ZeT Tryd.prog 79 (.agg #[.pointer none, .slice none 0 0]) := ZeT.of (by kernel_rfl)
instance : ZeT Tryd.prog 94 (.agg #[.string ⟨#[]⟩, .int .i64 0]) := ZeT.of (by kernel_rfl)
instance : ZeT Tryd.prog 123 (.agg #[.int .u8 0, .int .u8 0, .int .u8 0, .int .u8 0, .int .u8 0, .int .u8 0, .int .u8 0, .int .u8 0, .int .u8 0, .int .u8 0, .int .u8 0, .int .u8 0, .int .u8 0, .int .u8 0, .int .u8 0, .int .u8 0, .int .u8 0, .int .u8 0, .int .u8 0, .int .u8 0, .int .u8 0, .int .u8 0, .int .u8 0, .int .u8 0]) := ZeT.of (by kernel_rfl)
instance : ZeT Tryd.prog 130 (.int .u64 0) := ZeT.of (by kernel_rfl)
instance : FdT Tryd.prog 31 0 0 := FdT.of (k := 1) Tryd.underlying31 rfl rfl (by kernel_rfl) rfl
instance : FdT Tryd.prog 31 1 1 := FdT.of (k := 1) Tryd.underlying31 rfl rfl (by kernel_rfl) rfl
instance : FdT Tryd.prog 31 2 2 := FdT.of (k := 1) Tryd.underlying31 rfl rfl (by kernel_rfl) rfl
instance : FdT Tryd.prog 31 3 3 := FdT.of (k := 1) Tryd.underlying31 rfl rfl (by kernel_rfl) rfl
instance : FdT Tryd.prog 31 4 4 := FdT.of (k := 1) Tryd.underlying31 rfl rfl (by kernel_rfl) rfl
instance : FdT Tryd.prog 37 0 0 := FdT.of (k := 1) Tryd.underlying37 rfl rfl (by kernel_rfl) rfl
instance : FdT Tryd.prog 37 1 1 := FdT.of (k := 1) Tryd.underlying37 rfl rfl (by kernel_rfl) rfl
instance : FdT Tryd.prog 37 2 2 := FdT.of (k := 1) Tryd.underlying37 rfl rfl (by kernel_rfl) rfl
instance : FdT Tryd.prog 53 3 3 := FdT.of (k := 1) Tryd.underlying53 rfl rfl (by kernel_rfl) rfl
instance : FdT Tryd.prog 53 4 4 := FdT.of (k := 1) Tryd.underlying53 rfl rfl (by kernel_rfl) rfl
instance : FdT Tryd.prog 53 5 5 := FdT.of (k := 1) Tryd.underlying53 rfl rfl (by kernel_rfl) rfl
instance : FdT Tryd.prog 66 0 0 := FdT.of (k := 1) Tryd.underlying66 rfl rfl (by kernel_rfl) rfl
instance : FdT Tryd.prog 66 1 1 := FdT.of (k := 1) Tryd.underlying66 rfl rfl (by kernel_rfl) rfl
instance : FdT Tryd.prog 79 0 0 := FdT.of (k := 1) Tryd.underlying79 rfl rfl (by kernel_rfl) rfl
instance : FdT Tryd.prog 79 1 1 := FdT.of (k := 1) Tryd.underlying79 rfl rfl (by kernel_rfl) rfl
instance : FdT Tryd.prog 94 0 0 := FdT.of (k := 1) Tryd.underlying94 rfl rfl (by kernel_rfl) rfl
instance : FdT Tryd.prog 94 1 1 := FdT.of (k := 1) Tryd.underlying94 rfl rfl (by kernel_rfl) rfl
instance : BoT Tryd.prog 4 := ⟨Tryd.underlying4⟩
instance : StT Tryd.prog 9 := ⟨Tryd.underlying9⟩
instance : SlT Tryd.prog 22 31 5 80 := SlT.of Tryd.underlying22 (by kernel_rfl) rfl
instance : SlT Tryd.prog 28 9 1 16 := SlT.of Tryd.underlying28 (by kernel_rfl) rfl
instance : SlT Tryd.prog 29 3 1 8 := SlT.of Tryd.underlying29 (by kernel_rfl) rfl
instance : MpT Tryd.prog 51 53 4 := ⟨Tryd.underlying51⟩
instance : MpT Tryd.prog 59 3 3 := ⟨Tryd.underlying59⟩
instance : KyT Tryd.prog 3 (fun i : Int => .int .i64 i) := KyT.int Tryd.underlying3
instance : MpT Tryd.prog 60 53 3 := ⟨Tryd.underlying60⟩
instance : MpT Tryd.prog 64 3 9 := ⟨Tryd.underlying64⟩
instance : SlT Tryd.prog 72 4 1 1 := SlT.of Tryd.underlying72 (by kernel_rfl) rfl
instance : SlT Tryd.prog 77 5 1 1 := SlT.of Tryd.underlying77 (by kernel_rfl) rfl
instance : SlT Tryd.prog 91 94 2 24 := SlT.of Tryd.underlying91 (by kernel_rfl) rfl
instance : MpT Tryd.prog 99 9 4 := ⟨Tryd.underlying99⟩
instance : KyT Tryd.prog 9 S := KyT.str Tryd.underlying9
instance : BdT Tryd.prog 31 [.int .i64 0, .string ⟨#[]⟩, .int .i64 0, .slice none 0 0, .slice none 0 0] [(0, 1), (1, 1), (2, 1), (3, 1), (4, 1)] := BdT.of Tryd.underlying31 (by kernel_rfl) (by kernel_rfl)
instance : BdT Tryd.prog 37 [.slice none 0 0, .int .i64 0, .int .i64 0] [(0, 1), (1, 1), (2, 1)] := BdT.of Tryd.underlying37 (by kernel_rfl) (by kernel_rfl)
instance : BdT Tryd.prog 53 [.int .i64 0, .int .i64 0, .string ⟨#[]⟩, .string ⟨#[]⟩, .string ⟨#[]⟩, .string ⟨#[]⟩] [(0, 1), (1, 1), (2, 1), (3, 1), (4, 1), (5, 1)] := BdT.of Tryd.underlying53 (by kernel_rfl) (by kernel_rfl)
instance : BdT Tryd.prog 66 [.slice none 0 0, .map none] [(0, 1), (1, 1)] := BdT.of Tryd.underlying66 (by kernel_rfl) (by kernel_rfl)
instance : BdT Tryd.prog 79 [.pointer none, .slice none 0 0] [(0, 1), (1, 1)] := BdT.of Tryd.underlying79 (by kernel_rfl) (by kernel_rfl)
instance : BdT Tryd.prog 94 [.string ⟨#[]⟩, .int .i64 0] [(0, 1), (1, 1)] := BdT.of Tryd.underlying94 (by kernel_rfl) (by kernel_rfl)
instance : MxT Tryd.prog := ⟨by kernel_rfl⟩
instance : FnT Tryd.prog 2 := FnT.of Tryd.func2 (by kernel_rfl) (by kernel_rfl)
instance : FnT Tryd.prog 3 := FnT.of Tryd.func3 (by kernel_rfl) (by kernel_rfl)
instance : FnT Tryd.prog 4 := FnT.of Tryd.func4 (by kernel_rfl) (by kernel_rfl)
instance : FnT Tryd.prog 5 := FnT.of Tryd.func5 (by kernel_rfl) (by kernel_rfl)
instance : FnT Tryd.prog 6 := FnT.of Tryd.func6 (by kernel_rfl) (by kernel_rfl)
instance : FnT Tryd.prog 7 := FnT.of Tryd.func7 (by kernel_rfl) (by kernel_rfl)
instance : FnT Tryd.prog 8 := FnT.of Tryd.func8 (by kernel_rfl) (by kernel_rfl)
instance : FnT Tryd.prog 9 := FnT.of Tryd.func9 (by kernel_rfl) (by kernel_rfl)
instance : FnT Tryd.prog 10 := FnT.of Tryd.func10 (by kernel_rfl) (by kernel_rfl)
instance : FnT Tryd.prog 11 := FnT.of Tryd.func11 (by kernel_rfl) (by kernel_rfl)
instance : FnT Tryd.prog 12 := FnT.of Tryd.func12 (by kernel_rfl) (by kernel_rfl)
instance : FnT Tryd.prog 13 := FnT.of Tryd.func13 (by kernel_rfl) (by kernel_rfl)
instance : FnT Tryd.prog 14 := FnT.of Tryd.func14 (by kernel_rfl) (by kernel_rfl)
instance : FnT Tryd.prog 15 := FnT.of Tryd.func15 (by kernel_rfl) (by kernel_rfl)
instance : FnT Tryd.prog 16 := FnT.of Tryd.func16 (by kernel_rfl) (by kernel_rfl)
instance : FnT Tryd.prog 17 := FnT.of Tryd.func17 (by kernel_rfl) (by kernel_rfl)
instance : FnT Tryd.prog 18 := FnT.of Tryd.func18 (by kernel_rfl) (by kernel_rfl)
instance : FnT Tryd.prog 19 := FnT.of Tryd.func19 (by kernel_rfl) (by kernel_rfl)
instance : FnT Tryd.prog 20 := FnT.of Tryd.func20 (by kernel_rfl) (by kernel_rfl)
instance : FnT Tryd.prog 21 := FnT.of Tryd.func21 (by kernel_rfl) (by kernel_rfl)
instance : FnT Tryd.prog 22 := FnT.of Tryd.func22 (by kernel_rfl) (by kernel_rfl)
instance : FnT Tryd.prog 23 := FnT.of Tryd.func23 (by kernel_rfl) (by kernel_rfl)
instance : FnT Tryd.prog 24 := FnT.of Tryd.func24 (by kernel_rfl) (by kernel_rfl)
instance : FnT Tryd.prog 25 := FnT.of Tryd.func25 (by kernel_rfl) (by kernel_rfl)
instance : FnT Tryd.prog 26 := FnT.of Tryd.func26 (by kernel_rfl) (by kernel_rfl)
instance : FnT Tryd.prog 27 := FnT.of Tryd.func27 (by kernel_rfl) (by kernel_rfl)
instance : FnT Tryd.prog 28 := FnT.of Tryd.func28 (by kernel_rfl) (by kernel_rfl)
instance : FnT Tryd.prog 29 := FnT.of Tryd.func29 (by kernel_rfl) (by kernel_rfl)
instance : FnT Tryd.prog 30 := FnT.of Tryd.func30 (by kernel_rfl) (by kernel_rfl)
instance : FnT Tryd.prog 31 := FnT.of Tryd.func31 (by kernel_rfl) (by kernel_rfl)
instance : FnT Tryd.prog 32 := FnT.of Tryd.func32 (by kernel_rfl) (by kernel_rfl)
instance : FnT Tryd.prog 33 := FnT.of Tryd.func33 (by kernel_rfl) (by kernel_rfl)
instance : FnT Tryd.prog 34 := FnT.of Tryd.func34 (by kernel_rfl) (by kernel_rfl)
instance : FnT Tryd.prog 35 := FnT.of Tryd.func35 (by kernel_rfl) (by kernel_rfl)
instance : FnT Tryd.prog 36 := FnT.of Tryd.func36 (by kernel_rfl) (by kernel_rfl)
instance : FnT Tryd.prog 37 := FnT.of Tryd.func37 (by kernel_rfl) (by kernel_rfl)
instance : FnT Tryd.prog 38 := FnT.of Tryd.func38 (by kernel_rfl) (by kernel_rfl)
instance : FnT Tryd.prog 39 := FnT.of Tryd.func39 (by kernel_rfl) (by kernel_rfl)
instance : FnT Tryd.prog 40 := FnT.of Tryd.func40 (by kernel_rfl) (by kernel_rfl)
instance : FnT Tryd.prog 41 := FnT.of Tryd.func41 (by kernel_rfl) (by kernel_rfl)
instance : FnT Tryd.prog 42 := FnT.of Tryd.func42 (by kernel_rfl) (by kernel_rfl)
instance : FnT Tryd.prog 43 := FnT.of Tryd.func43 (by kernel_rfl) (by kernel_rfl)
instance : FnT Tryd.prog 44 := FnT.of Tryd.func44 (by kernel_rfl) (by kernel_rfl)
instance : FnT Tryd.prog 45 := FnT.of Tryd.func45 (by kernel_rfl) (by kernel_rfl)
instance : FnT Tryd.prog 46 := FnT.of Tryd.func46 (by kernel_rfl) (by kernel_rfl)
instance : FnT Tryd.prog 47 := FnT.of Tryd.func47 (by kernel_rfl) (by kernel_rfl)
instance : FnT Tryd.prog 48 := FnT.of Tryd.func48 (by kernel_rfl) (by kernel_rfl)
instance : FnT Tryd.prog 49 := FnT.of Tryd.func49 (by kernel_rfl) (by kernel_rfl)
instance : FnT Tryd.prog 50 := FnT.of Tryd.func50 (by kernel_rfl) (by kernel_rfl)
instance : FnT Tryd.prog 51 := FnT.of Tryd.func51 (by kernel_rfl) (by kernel_rfl)
instance : FnT Tryd.prog 52 := FnT.of Tryd.func52 (by kernel_rfl) (by kernel_rfl)
instance : FnT Tryd.prog 53 := FnT.of Tryd.func53 (by kernel_rfl) (by kernel_rfl)
instance : FnT Tryd.prog 54 := FnT.of Tryd.func54 (by kernel_rfl) (by kernel_rfl)
instance : FnT Tryd.prog 55 := FnT.of Tryd.func55 (by kernel_rfl) (by kernel_rfl)
instance : FnT Tryd.prog 56 := FnT.of Tryd.func56 (by kernel_rfl) (by kernel_rfl)
instance : FnT Tryd.prog 57 := FnT.of Tryd.func57 (by kernel_rfl) (by kernel_rfl)
instance : FnT Tryd.prog 58 := FnT.of Tryd.func58 (by kernel_rfl) (by kernel_rfl)
instance : FnT Tryd.prog 59 := FnT.of Tryd.func59 (by kernel_rfl) (by kernel_rfl)
instance : FnT Tryd.prog 60 := FnT.of Tryd.func60 (by kernel_rfl) (by kernel_rfl)
instance : FnT Tryd.prog 61 := FnT.of Tryd.func61 (by kernel_rfl) (by kernel_rfl)
instance : FnT Tryd.prog 62 := FnT.of Tryd.func62 (by kernel_rfl) (by kernel_rfl)
instance : FnT Tryd.prog 63 := FnT.of Tryd.func63 (by kernel_rfl) (by kernel_rfl)
instance : FnT Tryd.prog 64 := FnT.of Tryd.func64 (by kernel_rfl) (by kernel_rfl)
instance : FnT Tryd.prog 65 := FnT.of Tryd.func65 (by kernel_rfl) (by kernel_rfl)
instance : FnT Tryd.prog 66 := FnT.of Tryd.func66 (by kernel_rfl) (by kernel_rfl)
instance : FnT Tryd.prog 67 := FnT.of Tryd.func67 (by kernel_rfl) (by kernel_rfl)
instance : FnT Tryd.prog 68 := FnT.of Tryd.func68 (by kernel_rfl) (by kernel_rfl)
instance : FnT Tryd.prog 69 := FnT.of Tryd.func69 (by kernel_rfl) (by kernel_rfl)
instance : FnT Tryd.prog 70 := FnT.of Tryd.func70 (by kernel_rfl) (by kernel_rfl)
instance : FnT Tryd.prog 71 := FnT.of Tryd.func71 (by kernel_rfl) (by kernel_rfl)
instance : FnT Tryd.prog 72 := FnT.of Tryd.func72 (by kernel_rfl) (by kernel_rfl)
instance : FnT Tryd.prog 73 := FnT.of Tryd.func73 (by kernel_rfl) (by kernel_rfl)
instance : FnT Tryd.prog 75 := FnT.of Tryd.func75 (by kernel_rfl) (by kernel_rfl)
instance : FnT Tryd.prog 76 := FnT.of Tryd.func76 (by kernel_rfl) (by kernel_rfl)
instance : FnT Tryd.prog 77 := FnT.of Tryd.func77 (by kernel_rfl) (by kernel_rfl)
instance : FnT Tryd.prog 78 := FnT.of Tryd.func78 (by kernel_rfl) (by kernel_rfl)
instance : FnT Tryd.prog 79 := FnT.of Tryd.func79 (by kernel_rfl) (by kernel_rfl)
instance : FnT Tryd.prog 80 := FnT.of Tryd.func80 (by kernel_rfl) (by kernel_rfl)
instance : FnT Tryd.prog 81 := FnT.of Tryd.func81 (by kernel_rfl) (by kernel_rfl)
instance : FnT Tryd.prog 82 := FnT.of Tryd.func82 (by kernel_rfl) (by kernel_rfl)
instance : FnT Tryd.prog 83 := FnT.of Tryd.func83 (by kernel_rfl) (by kernel_rfl)
instance : FnT Tryd.prog 84 := FnT.of Tryd.func84 (by kernel_rfl) (by kernel_rfl)
instance : FnT Tryd.prog 85 := FnT.of Tryd.func85 (by kernel_rfl) (by kernel_rfl)
instance : FnT Tryd.prog 86 := FnT.of Tryd.func86 (by kernel_rfl) (by kernel_rfl)
instance : FnT Tryd.prog 87 := FnT.of Tryd.func87 (by kernel_rfl) (by kernel_rfl)
instance : FnT Tryd.prog 88 := FnT.of Tryd.func88 (by kernel_rfl) (by kernel_rfl)
instance : FnT Tryd.prog 89 := FnT.of Tryd.func89 (by kernel_rfl) (by kernel_rfl)
instance : FnT Tryd.prog 90 := FnT.of Tryd.func90 (by kernel_rfl) (by kernel_rfl)
instance : FnT Tryd.prog 91 := FnT.of Tryd.func91 (by kernel_rfl) (by kernel_rfl)
instance : FnT Tryd.prog 92 := FnT.of Tryd.func92 (by kernel_rfl) (by kernel_rfl)
instance : FnT Tryd.prog 93 := FnT.of Tryd.func93 (by kernel_rfl) (by kernel_rfl)
instance : FnT Tryd.prog 94 := FnT.of Tryd.func94 (by kernel_rfl) (by kernel_rfl)
instance : FnT Tryd.prog 95 := FnT.of Tryd.func95 (by kernel_rfl) (by kernel_rfl)
instance : FnT Tryd.prog 96 := FnT.of Tryd.func96 (by kernel_rfl) (by kernel_rfl)
instance : FnT Tryd.prog 98 := FnT.of Tryd.func98 (by kernel_rfl) (by kernel_rfl)
instance : FnT Tryd.prog 99 := FnT.of Tryd.func99 (by kernel_rfl) (by kernel_rfl)
instance : FnT Tryd.prog 100 := FnT.of Tryd.func100 (by kernel_rfl) (by kernel_rfl)
instance : FnT Tryd.prog 101 := FnT.of Tryd.func101 (by kernel_rfl) (by kernel_rfl)
instance : FnT Tryd.prog 102 := FnT.of Tryd.func102 (by kernel_rfl) (by kernel_rfl)
instance : FnT Tryd.prog 103 := FnT.of Tryd.func103 (by kernel_rfl) (by kernel_rfl)
instance : FnT Tryd.prog 104 := FnT.of Tryd.func104 (by kernel_rfl) (by kernel_rfl)
instance : FnT Tryd.prog 105 := FnT.of Tryd.func105 (by kernel_rfl) (by kernel_rfl)
instance : FnT Tryd.prog 106 := FnT.of Tryd.func106 (by kernel_rfl) (by kernel_rfl)
instance : FnT Tryd.prog 107 := FnT.of Tryd.func107 (by kernel_rfl) (by kernel_rfl)
instance : FnT Tryd.prog 109 := FnT.of Tryd.func109 (by kernel_rfl) (by kernel_rfl)
instance : FnT Tryd.prog 110 := FnT.of Tryd.func110 (by kernel_rfl) (by kernel_rfl)
instance : FnT Tryd.prog 111 := FnT.of Tryd.func111 (by kernel_rfl) (by kernel_rfl)
instance : FnT Tryd.prog 112 := FnT.of Tryd.func112 (by kernel_rfl) (by kernel_rfl)
instance : FnT Tryd.prog 113 := FnT.of Tryd.func113 (by kernel_rfl) (by kernel_rfl)
instance : FnT Tryd.prog 115 := FnT.of Tryd.func115 (by kernel_rfl) (by kernel_rfl)
end Go.Sy
