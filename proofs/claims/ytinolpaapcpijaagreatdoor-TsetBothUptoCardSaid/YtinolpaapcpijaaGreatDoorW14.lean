/- Joined of my own texts: Facts, Src, Typ1, TyP. -/
import Derived.Test.YtinolpaapcpijaaGreatDoorW13
import Derived.Test.YtinolpaapcpijaaGreatDoorProg
import Derived.KernelRfl
namespace Go.Sy
open Go Go.Proofs
set_option maxRecDepth 100000
instance : ScT Tryz.prog 3 := ScT.of Tryz.underlying3 rfl HV
instance : ScT Tryz.prog 4 := ScT.of Tryz.underlying4 rfl HV
instance : ScT Tryz.prog 9 := ScT.of Tryz.underlying9 rfl HV
instance : ScT Tryz.prog 22 := ScT.of Tryz.underlying22 rfl HV
instance : ScT Tryz.prog 23 := ScT.of Tryz.underlying23 rfl HV
instance : AgT Tryz.prog 25 2 := AgT.of Tryz.underlying25 HV
instance : ScT Tryz.prog 26 := ScT.of Tryz.underlying26 rfl HV
instance : ScT Tryz.prog 27 := ScT.of Tryz.underlying27 rfl HV
instance : AgT Tryz.prog 29 5 := AgT.of Tryz.underlying29 HV
instance : ScT Tryz.prog 33 := ScT.of Tryz.underlying33 rfl HV
instance : ScT Tryz.prog 40 := ScT.of Tryz.underlying40 rfl HV
instance : AgT Tryz.prog 44 3 := AgT.of Tryz.underlying44 HV
instance : AgT Tryz.prog 47 5 := AgT.of Tryz.underlying47 HV
instance : AgT Tryz.prog 78 4 := AgT.of Tryz.underlying78 HV
instance : ScT Tryz.prog 105 := ScT.of Tryz.underlying105 rfl HV
instance : ScT Tryz.prog 111 := ScT.of Tryz.underlying111 rfl HV
instance : ScT Tryz.prog 118 := ScT.of Tryz.underlying118 rfl HV
instance : ScT Tryz.prog 138 := ScT.of Tryz.underlying138 rfl HV
instance : AgT Tryz.prog 142 2 := AgT.of Tryz.underlying142 HV
instance : AgT Tryz.prog 144 2 := AgT.of Tryz.underlying144 HV
instance : ScT Tryz.prog 145 := ScT.of Tryz.underlying145 rfl HV
instance : AgT Tryz.prog 154 2 := AgT.of Tryz.underlying154 HV
instance : AgT Tryz.prog 163 6 := AgT.of Tryz.underlying163 HV
instance : AgT Tryz.prog 182 4 := AgT.of Tryz.underlying182 HV
instance : ScT Tryz.prog 220 := ScT.of Tryz.underlying220 rfl HV
instance : ScT Tryz.prog 221 := ScT.of Tryz.underlying221 rfl HV
instance : AgT Tryz.prog 266 2 := AgT.of Tryz.underlying266 HV
instance : ZeT Tryz.prog 3 (.int .i64 0) := ZeT.of HV
instance : ZeT Tryz.prog 4 (.bool false) := ZeT.of HV
instance : ZeT Tryz.prog 5 (.int .u8 0) := ZeT.of HV
instance : ZeT Tryz.prog 9 (.string ⟨#[]⟩) := ZeT.of HV
instance : ZeT Tryz.prog 25 (.agg #[.slice none 0 0, .slice none 0 0]) := ZeT.of HV
instance : ZeT Tryz.prog 29 (.agg #[.int .i64 0, .string ⟨#[]⟩, .int .i64 0, .slice none 0 0, .slice none 0 0]) := ZeT.of HV
instance : ZeT Tryz.prog 44 (.agg #[.string ⟨#[]⟩, .bool false, .int .i64 0]) := ZeT.of HV
instance : ZeT Tryz.prog 47 (.agg #[.bool false, .int .i64 0, .bool false, .bool false, .slice none 0 0]) := ZeT.of HV
instance : ZeT Tryz.prog 78 (.agg #[.string ⟨#[]⟩, .slice none 0 0, .int .i64 0, .slice none 0 0]) := ZeT.of HV
instance : ZeT Tryz.prog 105 (.slice none 0 0) := ZeT.of HV
instance : ZeT Tryz.prog 118 (.slice none 0 0) := ZeT.of HV
instance : ZeT Tryz.prog 142 (.agg #[.string ⟨#[]⟩, .int .i64 0]) := ZeT.of HV
instance : ZeT Tryz.prog 144 (.agg #[.string ⟨#[]⟩, .int .i64 0]) := ZeT.of HV
instance : ZeT Tryz.prog 145 (.pointer none) := ZeT.of HV
instance : ZeT Tryz.prog 154 (.agg #[.int .i64 0, .slice none 0 0]) := ZeT.of HV
instance : ZeT Tryz.prog 163 (.agg #[.int .i64 0, .int .i64 0, .string ⟨#[]⟩, .string ⟨#[]⟩, .string ⟨#[]⟩, .string ⟨#[]⟩]) := ZeT.of HV
instance : ZeT Tryz.prog 182 (.agg #[.int .i64 0, .bool false, .bool false, .slice none 0 0]) := ZeT.of HV
instance : ZeT Tryz.prog 223 (.agg #[.pointer none, .slice none 0 0]) := ZeT.of HV
instance : ZeT Tryz.prog 266 (.agg #[.string ⟨#[]⟩, .int .i64 0]) := ZeT.of HV
instance : FdT Tryz.prog 25 0 0 := FdT.of (k := 1) Tryz.underlying25 rfl rfl HV rfl
instance : FdT Tryz.prog 25 1 1 := FdT.of (k := 1) Tryz.underlying25 rfl rfl HV rfl
instance : FdT Tryz.prog 29 0 0 := FdT.of (k := 1) Tryz.underlying29 rfl rfl HV rfl
instance : FdT Tryz.prog 29 1 1 := FdT.of (k := 1) Tryz.underlying29 rfl rfl HV rfl
instance : FdT Tryz.prog 29 2 2 := FdT.of (k := 1) Tryz.underlying29 rfl rfl HV rfl
instance : FdT Tryz.prog 29 3 3 := FdT.of (k := 1) Tryz.underlying29 rfl rfl HV rfl
instance : FdT Tryz.prog 29 4 4 := FdT.of (k := 1) Tryz.underlying29 rfl rfl HV rfl
instance : FdT Tryz.prog 44 0 0 := FdT.of (k := 1) Tryz.underlying44 rfl rfl HV rfl
instance : FdT Tryz.prog 44 1 1 := FdT.of (k := 1) Tryz.underlying44 rfl rfl HV rfl
instance : FdT Tryz.prog 44 2 2 := FdT.of (k := 1) Tryz.underlying44 rfl rfl HV rfl
instance : FdT Tryz.prog 47 0 0 := FdT.of (k := 1) Tryz.underlying47 rfl rfl HV rfl
instance : FdT Tryz.prog 47 1 1 := FdT.of (k := 1) Tryz.underlying47 rfl rfl HV rfl
instance : FdT Tryz.prog 47 2 2 := FdT.of (k := 1) Tryz.underlying47 rfl rfl HV rfl
instance : FdT Tryz.prog 47 3 3 := FdT.of (k := 1) Tryz.underlying47 rfl rfl HV rfl
instance : FdT Tryz.prog 78 0 0 := FdT.of (k := 1) Tryz.underlying78 rfl rfl HV rfl
instance : FdT Tryz.prog 78 1 1 := FdT.of (k := 1) Tryz.underlying78 rfl rfl HV rfl
instance : FdT Tryz.prog 78 2 2 := FdT.of (k := 1) Tryz.underlying78 rfl rfl HV rfl
instance : FdT Tryz.prog 78 3 3 := FdT.of (k := 1) Tryz.underlying78 rfl rfl HV rfl
instance : FdT Tryz.prog 140 0 0 := FdT.of (k := 2) Tryz.underlying140 rfl rfl HV rfl
instance : FdT Tryz.prog 140 1 2 := FdT.of (k := 1) Tryz.underlying140 rfl rfl HV rfl
instance : FdT Tryz.prog 140 2 3 := FdT.of (k := 1) Tryz.underlying140 rfl rfl HV rfl
instance : FdT Tryz.prog 140 3 4 := FdT.of (k := 1) Tryz.underlying140 rfl rfl HV rfl
instance : FdT Tryz.prog 142 0 0 := FdT.of (k := 1) Tryz.underlying142 rfl rfl HV rfl
instance : FdT Tryz.prog 142 1 1 := FdT.of (k := 1) Tryz.underlying142 rfl rfl HV rfl
instance : FdT Tryz.prog 144 0 0 := FdT.of (k := 1) Tryz.underlying144 rfl rfl HV rfl
instance : FdT Tryz.prog 144 1 1 := FdT.of (k := 1) Tryz.underlying144 rfl rfl HV rfl
instance : FdT Tryz.prog 147 0 0 := FdT.of (k := 2) Tryz.underlying147 rfl rfl HV rfl
instance : FdT Tryz.prog 147 1 2 := FdT.of (k := 1) Tryz.underlying147 rfl rfl HV rfl
instance : FdT Tryz.prog 154 0 0 := FdT.of (k := 1) Tryz.underlying154 rfl rfl HV rfl
instance : FdT Tryz.prog 154 1 1 := FdT.of (k := 1) Tryz.underlying154 rfl rfl HV rfl
instance : FdT Tryz.prog 163 3 3 := FdT.of (k := 1) Tryz.underlying163 rfl rfl HV rfl
instance : FdT Tryz.prog 163 4 4 := FdT.of (k := 1) Tryz.underlying163 rfl rfl HV rfl
instance : FdT Tryz.prog 163 5 5 := FdT.of (k := 1) Tryz.underlying163 rfl rfl HV rfl
instance : FdT Tryz.prog 182 0 0 := FdT.of (k := 1) Tryz.underlying182 rfl rfl HV rfl
instance : FdT Tryz.prog 182 1 1 := FdT.of (k := 1) Tryz.underlying182 rfl rfl HV rfl
instance : FdT Tryz.prog 182 2 2 := FdT.of (k := 1) Tryz.underlying182 rfl rfl HV rfl
instance : FdT Tryz.prog 182 3 3 := FdT.of (k := 1) Tryz.underlying182 rfl rfl HV rfl
instance : FdT Tryz.prog 223 0 0 := FdT.of (k := 1) Tryz.underlying223 rfl rfl HV rfl
instance : FdT Tryz.prog 223 1 1 := FdT.of (k := 1) Tryz.underlying223 rfl rfl HV rfl
instance : FdT Tryz.prog 266 0 0 := FdT.of (k := 1) Tryz.underlying266 rfl rfl HV rfl
instance : FdT Tryz.prog 266 1 1 := FdT.of (k := 1) Tryz.underlying266 rfl rfl HV rfl
instance : BoT Tryz.prog 4 := ⟨Tryz.underlying4⟩
instance : StT Tryz.prog 9 := ⟨Tryz.underlying9⟩
instance : SlT Tryz.prog 22 29 5 80 := SlT.of Tryz.underlying22 HV rfl
instance : SlT Tryz.prog 23 78 4 72 := SlT.of Tryz.underlying23 HV rfl
instance : SlT Tryz.prog 26 9 1 16 := SlT.of Tryz.underlying26 HV rfl
instance : SlT Tryz.prog 27 3 1 8 := SlT.of Tryz.underlying27 HV rfl
instance : SlT Tryz.prog 40 44 3 32 := SlT.of Tryz.underlying40 HV rfl
instance : SlT Tryz.prog 105 47 5 48 := SlT.of Tryz.underlying105 HV rfl
instance : SlT Tryz.prog 118 144 2 24 := SlT.of Tryz.underlying118 HV rfl
instance : SlT Tryz.prog 134 142 2 24 := SlT.of Tryz.underlying134 HV rfl
instance : MpT Tryz.prog 138 3 4 := ⟨Tryz.underlying138⟩
instance : KyT Tryz.prog 3 (fun i : Int => .int .i64 i) := KyT.int Tryz.underlying3
instance : SlT Tryz.prog 151 182 4 40 := SlT.of Tryz.underlying151 HV rfl
instance : SlT Tryz.prog 152 154 2 32 := SlT.of Tryz.underlying152 HV rfl
instance : MpT Tryz.prog 161 163 4 := ⟨Tryz.underlying161⟩
instance : SlT Tryz.prog 221 5 1 1 := SlT.of Tryz.underlying221 HV rfl
instance : MpT Tryz.prog 236 3 3 := ⟨Tryz.underlying236⟩
instance : SlT Tryz.prog 237 4 1 1 := SlT.of Tryz.underlying237 HV rfl
instance : MpT Tryz.prog 261 9 4 := ⟨Tryz.underlying261⟩
instance : KyT Tryz.prog 9 S := KyT.str Tryz.underlying9
instance : SlT Tryz.prog 263 266 2 24 := SlT.of Tryz.underlying263 HV rfl
instance : BdT Tryz.prog 25 [.slice none 0 0, .slice none 0 0] [(0, 1), (1, 1)] := BdT.of Tryz.underlying25 HV HV
instance : BdT Tryz.prog 29 [.int .i64 0, .string ⟨#[]⟩, .int .i64 0, .slice none 0 0, .slice none 0 0] [(0, 1), (1, 1), (2, 1), (3, 1), (4, 1)] := BdT.of Tryz.underlying29 HV HV
instance : BdT Tryz.prog 44 [.string ⟨#[]⟩, .bool false, .int .i64 0] [(0, 1), (1, 1), (2, 1)] := BdT.of Tryz.underlying44 HV HV
instance : BdT Tryz.prog 47 [.bool false, .int .i64 0, .bool false, .bool false, .slice none 0 0] [(0, 1), (1, 1), (2, 1), (3, 1), (4, 1)] := BdT.of Tryz.underlying47 HV HV
instance : BdT Tryz.prog 78 [.string ⟨#[]⟩, .slice none 0 0, .int .i64 0, .slice none 0 0] [(0, 1), (1, 1), (2, 1), (3, 1)] := BdT.of Tryz.underlying78 HV HV
instance : BdT Tryz.prog 140 [.slice none 0 0, .slice none 0 0, .slice none 0 0, .map none, .int .i64 0] [(0, 2), (2, 1), (3, 1), (4, 1)] := BdT.of Tryz.underlying140 HV HV
instance : BdT Tryz.prog 142 [.string ⟨#[]⟩, .int .i64 0] [(0, 1), (1, 1)] := BdT.of Tryz.underlying142 HV HV
instance : BdT Tryz.prog 144 [.string ⟨#[]⟩, .int .i64 0] [(0, 1), (1, 1)] := BdT.of Tryz.underlying144 HV HV
instance : BdT Tryz.prog 147 [.slice none 0 0, .slice none 0 0, .int .i64 0] [(0, 2), (2, 1)] := BdT.of Tryz.underlying147 HV HV
instance : BdT Tryz.prog 154 [.int .i64 0, .slice none 0 0] [(0, 1), (1, 1)] := BdT.of Tryz.underlying154 HV HV
instance : BdT Tryz.prog 163 [.int .i64 0, .int .i64 0, .string ⟨#[]⟩, .string ⟨#[]⟩, .string ⟨#[]⟩, .string ⟨#[]⟩] [(0, 1), (1, 1), (2, 1), (3, 1), (4, 1), (5, 1)] := BdT.of Tryz.underlying163 HV HV
instance : BdT Tryz.prog 182 [.int .i64 0, .bool false, .bool false, .slice none 0 0] [(0, 1), (1, 1), (2, 1), (3, 1)] := BdT.of Tryz.underlying182 HV HV
instance : BdT Tryz.prog 266 [.string ⟨#[]⟩, .int .i64 0] [(0, 1), (1, 1)] := BdT.of Tryz.underlying266 HV HV
instance : MxT Tryz.prog := ⟨by kernel_rfl⟩
instance : FnT Tryz.prog 10 := FnT.of Tryz.func10 HV HV
instance : FnT Tryz.prog 12 := FnT.of Tryz.func12 HV HV
instance : FnT Tryz.prog 13 := FnT.of Tryz.func13 HV HV
instance : FnT Tryz.prog 14 := FnT.of Tryz.func14 HV HV
instance : FnT Tryz.prog 15 := FnT.of Tryz.func15 HV HV
instance : FnT Tryz.prog 16 := FnT.of Tryz.func16 HV HV
instance : FnT Tryz.prog 17 := FnT.of Tryz.func17 HV HV
instance : FnT Tryz.prog 19 := FnT.of Tryz.func19 HV HV
instance : FnT Tryz.prog 29 := FnT.of Tryz.func29 HV HV
instance : FnT Tryz.prog 31 := FnT.of Tryz.func31 HV HV
instance : FnT Tryz.prog 33 := FnT.of Tryz.func33 HV HV
instance : FnT Tryz.prog 34 := FnT.of Tryz.func34 HV HV
instance : FnT Tryz.prog 37 := FnT.of Tryz.func37 HV HV
instance : FnT Tryz.prog 41 := FnT.of Tryz.func41 HV HV
instance : FnT Tryz.prog 42 := FnT.of Tryz.func42 HV HV
instance : FnT Tryz.prog 43 := FnT.of Tryz.func43 HV HV
instance : FnT Tryz.prog 44 := FnT.of Tryz.func44 HV HV
instance : FnT Tryz.prog 45 := FnT.of Tryz.func45 HV HV
instance : FnT Tryz.prog 46 := FnT.of Tryz.func46 HV HV
instance : FnT Tryz.prog 47 := FnT.of Tryz.func47 HV HV
instance : FnT Tryz.prog 48 := FnT.of Tryz.func48 HV HV
instance : FnT Tryz.prog 49 := FnT.of Tryz.func49 HV HV
instance : FnT Tryz.prog 50 := FnT.of Tryz.func50 HV HV
instance : FnT Tryz.prog 52 := FnT.of Tryz.func52 HV HV
instance : FnT Tryz.prog 53 := FnT.of Tryz.func53 HV HV
instance : FnT Tryz.prog 54 := FnT.of Tryz.func54 HV HV
instance : FnT Tryz.prog 55 := FnT.of Tryz.func55 HV HV
instance : FnT Tryz.prog 56 := FnT.of Tryz.func56 HV HV
instance : FnT Tryz.prog 57 := FnT.of Tryz.func57 HV HV
instance : FnT Tryz.prog 58 := FnT.of Tryz.func58 HV HV
instance : FnT Tryz.prog 59 := FnT.of Tryz.func59 HV HV
instance : FnT Tryz.prog 60 := FnT.of Tryz.func60 HV HV
instance : FnT Tryz.prog 61 := FnT.of Tryz.func61 HV HV
instance : FnT Tryz.prog 74 := FnT.of Tryz.func74 HV HV
instance : FnT Tryz.prog 75 := FnT.of Tryz.func75 HV HV
instance : FnT Tryz.prog 76 := FnT.of Tryz.func76 HV HV
instance : FnT Tryz.prog 77 := FnT.of Tryz.func77 HV HV
instance : FnT Tryz.prog 78 := FnT.of Tryz.func78 HV HV
instance : FnT Tryz.prog 79 := FnT.of Tryz.func79 HV HV
instance : FnT Tryz.prog 80 := FnT.of Tryz.func80 HV HV
instance : FnT Tryz.prog 89 := FnT.of Tryz.func89 HV HV
instance : FnT Tryz.prog 90 := FnT.of Tryz.func90 HV HV
instance : FnT Tryz.prog 91 := FnT.of Tryz.func91 HV HV
instance : FnT Tryz.prog 92 := FnT.of Tryz.func92 HV HV
instance : FnT Tryz.prog 99 := FnT.of Tryz.func99 HV HV
instance : FnT Tryz.prog 100 := FnT.of Tryz.func100 HV HV
instance : FnT Tryz.prog 101 := FnT.of Tryz.func101 HV HV
instance : FnT Tryz.prog 102 := FnT.of Tryz.func102 HV HV
instance : FnT Tryz.prog 103 := FnT.of Tryz.func103 HV HV
instance : FnT Tryz.prog 104 := FnT.of Tryz.func104 HV HV
instance : FnT Tryz.prog 105 := FnT.of Tryz.func105 HV HV
instance : FnT Tryz.prog 106 := FnT.of Tryz.func106 HV HV
instance : FnT Tryz.prog 107 := FnT.of Tryz.func107 HV HV
instance : FnT Tryz.prog 108 := FnT.of Tryz.func108 HV HV
instance : FnT Tryz.prog 110 := FnT.of Tryz.func110 HV HV
instance : FnT Tryz.prog 111 := FnT.of Tryz.func111 HV HV
instance : FnT Tryz.prog 112 := FnT.of Tryz.func112 HV HV
instance : FnT Tryz.prog 113 := FnT.of Tryz.func113 HV HV
instance : FnT Tryz.prog 114 := FnT.of Tryz.func114 HV HV
instance : FnT Tryz.prog 115 := FnT.of Tryz.func115 HV HV
instance : FnT Tryz.prog 116 := FnT.of Tryz.func116 HV HV
instance : FnT Tryz.prog 128 := FnT.of Tryz.func128 HV HV
instance : FnT Tryz.prog 129 := FnT.of Tryz.func129 HV HV
instance : FnT Tryz.prog 130 := FnT.of Tryz.func130 HV HV
instance : FnT Tryz.prog 131 := FnT.of Tryz.func131 HV HV
instance : FnT Tryz.prog 132 := FnT.of Tryz.func132 HV HV
instance : FnT Tryz.prog 133 := FnT.of Tryz.func133 HV HV
instance : FnT Tryz.prog 134 := FnT.of Tryz.func134 HV HV
instance : FnT Tryz.prog 135 := FnT.of Tryz.func135 HV HV
instance : FnT Tryz.prog 136 := FnT.of Tryz.func136 HV HV
instance : FnT Tryz.prog 139 := FnT.of Tryz.func139 HV HV
instance : FnT Tryz.prog 140 := FnT.of Tryz.func140 HV HV
instance : FnT Tryz.prog 141 := FnT.of Tryz.func141 HV HV
instance : FnT Tryz.prog 142 := FnT.of Tryz.func142 HV HV
instance : FnT Tryz.prog 144 := FnT.of Tryz.func144 HV HV
instance : FnT Tryz.prog 145 := FnT.of Tryz.func145 HV HV
instance : FnT Tryz.prog 146 := FnT.of Tryz.func146 HV HV
instance : FnT Tryz.prog 147 := FnT.of Tryz.func147 HV HV
instance : FnT Tryz.prog 149 := FnT.of Tryz.func149 HV HV
instance : FnT Tryz.prog 150 := FnT.of Tryz.func150 HV HV
instance : FnT Tryz.prog 151 := FnT.of Tryz.func151 HV HV
instance : FnT Tryz.prog 152 := FnT.of Tryz.func152 HV HV
instance : FnT Tryz.prog 153 := FnT.of Tryz.func153 HV HV
instance : FnT Tryz.prog 157 := FnT.of Tryz.func157 HV HV
instance : FnT Tryz.prog 158 := FnT.of Tryz.func158 HV HV
instance : FnT Tryz.prog 159 := FnT.of Tryz.func159 HV HV
instance : FnT Tryz.prog 160 := FnT.of Tryz.func160 HV HV
instance : FnT Tryz.prog 161 := FnT.of Tryz.func161 HV HV
instance : FnT Tryz.prog 162 := FnT.of Tryz.func162 HV HV
instance : FnT Tryz.prog 163 := FnT.of Tryz.func163 HV HV
instance : FnT Tryz.prog 164 := FnT.of Tryz.func164 HV HV
instance : FnT Tryz.prog 166 := FnT.of Tryz.func166 HV HV
instance : FnT Tryz.prog 171 := FnT.of Tryz.func171 HV HV
instance : FnT Tryz.prog 172 := FnT.of Tryz.func172 HV HV
instance : FnT Tryz.prog 173 := FnT.of Tryz.func173 HV HV
instance : FnT Tryz.prog 174 := FnT.of Tryz.func174 HV HV
instance : FnT Tryz.prog 175 := FnT.of Tryz.func175 HV HV
instance : FnT Tryz.prog 176 := FnT.of Tryz.func176 HV HV
instance : FnT Tryz.prog 177 := FnT.of Tryz.func177 HV HV
instance : FnT Tryz.prog 185 := FnT.of Tryz.func185 HV HV
instance : FnT Tryz.prog 190 := FnT.of Tryz.func190 HV HV
instance : FnT Tryz.prog 203 := FnT.of Tryz.func203 HV HV
instance : FnT Tryz.prog 205 := FnT.of Tryz.func205 HV HV
instance : FnT Tryz.prog 206 := FnT.of Tryz.func206 HV HV
instance : FnT Tryz.prog 209 := FnT.of Tryz.func209 HV HV
instance : FnT Tryz.prog 210 := FnT.of Tryz.func210 HV HV
instance : FnT Tryz.prog 211 := FnT.of Tryz.func211 HV HV
instance : FnT Tryz.prog 212 := FnT.of Tryz.func212 HV HV
instance : FnT Tryz.prog 216 := FnT.of Tryz.func216 HV HV
end Go.Sy
namespace Go.Sy
open Go Go.Proofs
def letter (c : UInt8) : Bool := (97 ≤ c.toNat && c.toNat ≤ 122) || (65 ≤ c.toNat && c.toNat ≤ 90) || c.toNat == 95
def nameC (c : UInt8) : Bool := letter c || (48 ≤ c.toNat && c.toNat ≤ 57)
def isName (s : List UInt8) : Bool := !s.isEmpty && s.length ≤ 20 && letter (s.headD 0) && s.all nameC
theorem isName_no {s : List UInt8} {j : Nat} (h : j < s.length) (hl : nameC s[j] = false) : isName s = false := by
  have : s.all nameC = false := by
    rw [List.all_eq_false]; exact ⟨s[j], List.getElem_mem h, by simp [hl]⟩
  simp [isName, this]
theorem isName_yes {s : List UInt8} (h0 : s ≠ []) (h1 : s.length ≤ 20) (h2 : letter (s.headD 0) = true) (h : ∀ j (hj : j < s.length), nameC s[j] = true) : isName s = true := by
  have : s.all nameC = true := by
    rw [List.all_eq_true]; intro c hc
    obtain ⟨j, hj, rfl⟩ := List.getElem_of_mem hc
    exact h j hj
  unfold isName
  rw [this, h2]
  simp [h0, h1]
attribute [local irreducible] AC AT AO AK AH ACalls Sub Res.cells Res.obj Res.nix Res.own Exit.then Exit.inBlock bodyPost Code.wp Code.wpIn WL Next Post Kont
section
variable {W0 : World} {L : List Res} {F : List Fact} {R : Value → List Res → List Fact → Prop}
set_option maxRecDepth 100000
theorem src_Letter_c (c : UInt8) (hT : letter c = true → R (.bool true) L F) (hF : letter c = false → R (.bool false) L F) : ACalls Tryz.prog W0 115 #[.int .u8 c.toNat] L F R := by
  refine Ge Tryz.func115 HU Tryz.ntmps115 HU ?_
  refine qs 8 ?_
  refine Ga (Hh HU HU HU (fun c4 => ?_) (fun c4 => ?_))
  ·refine qs 2 ?_
   refine Gh HU HU (AO.leq HU HU HU (fun c7 => ?_) (fun c7 => ?_))
   ·refine qs 17 ?_
    first | refine Gb Tryz.results115 HU (Gk _ _) (hT ?_) | refine Gb Tryz.results115 HU (Gk _ _) (hF ?_)
    simp [letter]; omega
   refine qs 3 ?_
   refine Gh HU HU (Hh HU HU HU (fun c11 => ?_) (fun c11 => ?_))
   ·refine qs 2 ?_
    refine Gh HU HU (AO.leq HU HU HU (fun c14 => ?_) (fun c14 => ?_))
    ·refine qs 10 ?_
     first | refine Gb Tryz.results115 HU (Gk _ _) (hT ?_) | refine Gb Tryz.results115 HU (Gk _ _) (hF ?_)
     simp [letter]; omega
    refine qs 4 ?_
    refine Gh HU HU (GC HU HU HU (fun c19 => ?_) (fun c19 => ?_))
    ·refine qs 5 ?_
     first | refine Gb Tryz.results115 HU (Gk _ _) (hT ?_) | refine Gb Tryz.results115 HU (Gk _ _) (hF ?_)
     simp [letter]; omega
    refine qs 5 ?_
    first | refine Gb Tryz.results115 HU (Gk _ _) (hT ?_) | refine Gb Tryz.results115 HU (Gk _ _) (hF ?_)
    simp [letter]; omega
   refine qs 7 ?_
   refine Gh HU HU (GC HU HU HU (fun c19 => ?_) (fun c19 => ?_))
   ·refine qs 5 ?_
    first | refine Gb Tryz.results115 HU (Gk _ _) (hT ?_) | refine Gb Tryz.results115 HU (Gk _ _) (hF ?_)
    simp [letter]; omega
   refine qs 5 ?_
   first | refine Gb Tryz.results115 HU (Gk _ _) (hT ?_) | refine Gb Tryz.results115 HU (Gk _ _) (hF ?_)
   simp [letter]; omega
  refine qs 6 ?_
  refine Gh HU HU (Hh HU HU HU (fun c11 => ?_) (fun c11 => ?_))
  ·refine qs 2 ?_
   refine Gh HU HU (AO.leq HU HU HU (fun c14 => ?_) (fun c14 => ?_))
   ·refine qs 10 ?_
    first | refine Gb Tryz.results115 HU (Gk _ _) (hT ?_) | refine Gb Tryz.results115 HU (Gk _ _) (hF ?_)
    simp [letter]; omega
   refine qs 4 ?_
   refine Gh HU HU (GC HU HU HU (fun c19 => ?_) (fun c19 => ?_))
   ·refine qs 5 ?_
    first | refine Gb Tryz.results115 HU (Gk _ _) (hT ?_) | refine Gb Tryz.results115 HU (Gk _ _) (hF ?_)
    simp [letter]; omega
   refine qs 5 ?_
   first | refine Gb Tryz.results115 HU (Gk _ _) (hT ?_) | refine Gb Tryz.results115 HU (Gk _ _) (hF ?_)
   simp [letter]; omega
  refine qs 7 ?_
  refine Gh HU HU (GC HU HU HU (fun c19 => ?_) (fun c19 => ?_))
  ·refine qs 5 ?_
   first | refine Gb Tryz.results115 HU (Gk _ _) (hT ?_) | refine Gb Tryz.results115 HU (Gk _ _) (hF ?_)
   simp [letter]; omega
  refine qs 5 ?_
  first | refine Gb Tryz.results115 HU (Gk _ _) (hT ?_) | refine Gb Tryz.results115 HU (Gk _ _) (hF ?_)
  simp [letter]; omega
theorem src_Name_c (s : List UInt8) (hT : isName s = true → R (.bool true) L F) (hF : isName s = false → R (.bool false) L F) : ACalls Tryz.prog W0 60 #[S s] L F R := by
  refine Ge Tryz.func60 HU Tryz.ntmps60 HU ?_
  refine qs 9 ?_
  refine Ga (Hu HU HU HU (fun c5 => ?_) (fun c5 => ?_))
  ·refine qs 21 ?_
   first | refine Gb Tryz.results60 HU (Gk _ _) (hT ?_) | refine Gb Tryz.results60 HU (Gk _ _) (hF ?_)
   first | (simp [isName, *]; done) | (unfold isName; simp; omega) | exact isName_yes c5 HW (by cases s <;> simp_all) (fun j hj => hok j hj HW) | exact isName_no (j := k) HW (by simp only [nameC, Bool.or_eq_false_iff, Bool.and_eq_false_iff, decide_eq_false_iff_not]; exact ⟨‹_›, by omega⟩) | (cases s <;> simp_all [isName])
  refine qs 3 ?_
  refine Gh HU HU (AO.gtr HU HU HU (fun c9 => ?_) (fun c9 => ?_))
  ·refine qs 17 ?_
   first | refine Gb Tryz.results60 HU (Gk _ _) (hT ?_) | refine Gb Tryz.results60 HU (Gk _ _) (hF ?_)
   first | (simp [isName, *]; done) | (unfold isName; simp; omega) | exact isName_yes c5 HW (by cases s <;> simp_all) (fun j hj => hok j hj HW) | exact isName_no (j := k) HW (by simp only [nameC, Bool.or_eq_false_iff, Bool.and_eq_false_iff, decide_eq_false_iff_not]; exact ⟨‹_›, by omega⟩) | (cases s <;> simp_all [isName])
  refine qs 3 ?_
  have h0 : 0 < s.length := List.length_pos_iff.2 c5
  refine Gh HU HU (AO.indexS HU HU HU HU h0 ?_)
  refine Gh HU HU (Gd HU HU (src_Letter_c _ (fun c14 => ?_) (fun c14 => ?_)))
  ·refine qs 16 ?_
   refine GN (fun k => k ≤ s.length ∧ ∀ j (hj : j < s.length), j < k → nameC s[j] = true) (fun k => [(0, S s), (18, .int .i64 s.length), (19, .int .i64 (k : Int))]) (fun _ => L) (fun _ => F) (fun k => s.length - k) 0 ⟨by omega, by omega⟩ srA (Gk _ _) ?_
   rintro k ⟨hk, hok⟩
   refine qs 2 ?_
   refine Ga (GB HU HU HU (fun c20 => ?_) (fun c20 => ?_))
   ·refine qs 18 ?_
    refine Ga (AO.indexS HU HU HU HU HW ?_)
    refine Ga (Gd HU HU (src_Letter_c _ (fun c25 => ?_) (fun c25 => ?_)))
    ·refine qs 23 ?_
     refine Gl (k + 1) ⟨by omega, ?_⟩ HW srA (Gk _ _)
     intro j hj hjk
     rcases Nat.lt_succ_iff_lt_or_eq.1 hjk with h | rfl
     · exact hok j hj h
     simp only [nameC, Bool.or_eq_true, Bool.and_eq_true, decide_eq_true_eq]
     first | exact .inl ‹_› | (right; omega)
    refine qs 4 ?_
    refine Gh HU HU (AO.indexS HU HU HU HU HW ?_)
    refine Gh HU HU (GB HU HU HU (fun c31 => ?_) (fun c31 => ?_))
    ·refine qs 21 ?_
     first | refine Gb Tryz.results60 HU (Gk _ _) (hT ?_) | refine Gb Tryz.results60 HU (Gk _ _) (hF ?_)
     first | (simp [isName, *]; done) | (unfold isName; simp; omega) | exact isName_yes c5 HW (by cases s <;> simp_all) (fun j hj => hok j hj HW) | exact isName_no (j := k) HW (by simp only [nameC, Bool.or_eq_false_iff, Bool.and_eq_false_iff, decide_eq_false_iff_not]; exact ⟨‹_›, by omega⟩) | (cases s <;> simp_all [isName])
    refine qs 3 ?_
    refine Gh HU HU (AO.indexS HU HU HU HU HW ?_)
    refine Gh HU HU (AO.gtr HU HU HU (fun c36 => ?_) (fun c36 => ?_))
    ·refine qs 16 ?_
     first | refine Gb Tryz.results60 HU (Gk _ _) (hT ?_) | refine Gb Tryz.results60 HU (Gk _ _) (hF ?_)
     first | (simp [isName, *]; done) | (unfold isName; simp; omega) | exact isName_yes c5 HW (by cases s <;> simp_all) (fun j hj => hok j hj HW) | exact isName_no (j := k) HW (by simp only [nameC, Bool.or_eq_false_iff, Bool.and_eq_false_iff, decide_eq_false_iff_not]; exact ⟨‹_›, by omega⟩) | (cases s <;> simp_all [isName])
    refine qs 12 ?_
    refine Gl (k + 1) ⟨by omega, ?_⟩ HW srA (Gk _ _)
    intro j hj hjk
    rcases Nat.lt_succ_iff_lt_or_eq.1 hjk with h | rfl
    · exact hok j hj h
    simp only [nameC, Bool.or_eq_true, Bool.and_eq_true, decide_eq_true_eq]
    first | exact .inl ‹_› | (right; omega)
   refine qs 15 ?_
   first | refine Gb Tryz.results60 HU (Gk _ _) (hT ?_) | refine Gb Tryz.results60 HU (Gk _ _) (hF ?_)
   first | (simp [isName, *]; done) | (unfold isName; simp; omega) | exact isName_yes c5 HW (by cases s <;> simp_all) (fun j hj => hok j hj HW) | exact isName_no (j := k) HW (by simp only [nameC, Bool.or_eq_false_iff, Bool.and_eq_false_iff, decide_eq_false_iff_not]; exact ⟨‹_›, by omega⟩) | (cases s <;> simp_all [isName])
  refine qs 12 ?_
  first | refine Gb Tryz.results60 HU (Gk _ _) (hT ?_) | refine Gb Tryz.results60 HU (Gk _ _) (hF ?_)
  first | (simp [isName, *]; done) | (unfold isName; simp; omega) | exact isName_yes c5 HW (by cases s <;> simp_all) (fun j hj => hok j hj HW) | exact isName_no (j := k) HW (by simp only [nameC, Bool.or_eq_false_iff, Bool.and_eq_false_iff, decide_eq_false_iff_not]; exact ⟨‹_›, by omega⟩) | (cases s <;> simp_all [isName])
end
end Go.Sy
namespace Go.Sy
abbrev Hz := @src_Name_c
end Go.Sy
namespace Go.Sy
open Go Go.Proofs
structure Ty where
  kind : Int
  name : List UInt8
  n : Int
  words : List (List UInt8)
  kids : List Int
deriving DecidableEq
abbrev eS (s : List UInt8) : List D := [.val (S s)]
abbrev eI (i : Int) : List D := [.val (.int .i64 i)]
abbrev eTy (t : Ty) : List D := [.val (.int .i64 t.kind), .val (S t.name), .val (.int .i64 t.n), .slc 1 (t.words.map eS), .slc 1 (t.kids.map eI)]
abbrev vTy (t : Ty) (a1 : Option Addr) (k1 c1 : Nat) (a2 : Option Addr) (k2 c2 : Nat) : Value := .agg #[.int .i64 t.kind, S t.name, .int .i64 t.n, .slice a1 k1 c1, .slice a2 k2 c2]
abbrev fW (t : Ty) (a1 : Option Addr) (k1 c1 : Nat) : Fact := .slc (.slice a1 k1 c1) 1 (t.words.map eS)
abbrev fK (t : Ty) (a2 : Option Addr) (k2 c2 : Nat) : Fact := .slc (.slice a2 k2 c2) 1 (t.kids.map eI)
theorem take_step {α : Type} {l m : List α} {k : Nat} (h : l.take k = m.take k) (hl : k < l.length) (hm : k < m.length) (he : l[k] = m[k]) : l.take (k + 1) = m.take (k + 1) := by
  rw [List.take_succ_eq_append_getElem hl, List.take_succ_eq_append_getElem hm, h, he]
theorem ne_at {α : Type} {l m : List α} {k : Nat} (hl : k < l.length) (hm : k < m.length) (he : l[k] ≠ m[k]) : l ≠ m := fun e => he (by subst e; rfl)
theorem all_of_take {α : Type} {l m : List α} {k : Nat} (h : l.take k = m.take k) (hl : l.length ≤ k) (hm : m.length ≤ k) : l = m := by
  rwa [List.take_of_length_le hl, List.take_of_length_le hm] at h
theorem ty_ext {t u : Ty} (h1 : t.kind = u.kind) (h2 : t.name = u.name) (h3 : t.n = u.n) (h4 : t.words = u.words) (h5 : t.kids = u.kids) : t = u := by
  cases t; cases u; simp_all
attribute [local irreducible] AC AT AO AK AH ACalls Sub Res.cells Res.obj Res.nix Res.own Exit.then Exit.inBlock bodyPost Code.wp Code.wpIn WL Next Post Kont
section
variable {W0 : World} {L : List Res} {F : List Fact} {R : Value → List Res → List Fact → Prop}
set_option maxRecDepth 100000
theorem ref_Like_c (t u : Ty) {a1 a2 a3 a4 : Option Addr} {k1 c1 k2 c2 k3 c3 k4 c4 : Nat} (hT : t = u → R (.bool true) L F) (hF : t ≠ u → R (.bool false) L F)
    (m1 : fW t a1 k1 c1 ∈ F) (m2 : fK t a2 k2 c2 ∈ F) (m3 : fW u a3 k3 c3 ∈ F) (m4 : fK u a4 k4 c4 ∈ F) :
    ACalls Tryz.prog W0 14 #[vTy t a1 k1 c1 a2 k2 c2, vTy u a3 k3 c3 a4 k4 c4] L F R := by
  refine Ge Tryz.func14 HU Tryz.ntmps14 HU ?_
  refine qs 2 ?_
  refine Ga (GJ HU HU (fun b2 => (Ga (GJ HU HU (fun b3 => ?_)))))
  refine qs 10 ?_
  refine Ga (GK HU HU HU (fun c11 => ?_) (fun c11 => ?_))
  ·refine qs 42 ?_
   first | refine Gb Tryz.results14 HU subA (hT ?_) | refine Gb Tryz.results14 HU subA (hF ?_)
   first
   | (intro e; subst e; exact absurd rfl ‹_›)
   | exact fun e => ne_at hkl hkm c60 (by rw [e])
   | exact fun e => ne_at hkl hkm c78 (by rw [e])
   | exact fun e => absurd (congrArg Ty.kind e) ‹_›
   | exact fun e => absurd (congrArg Ty.name e) ‹_›
   | exact fun e => absurd (congrArg Ty.n e) ‹_›
   | exact fun e => c33 (by rw [e])
   | exact fun e => c42 (by rw [e])
   | exact ty_ext c11 c17 c24 (all_of_take hok HW HW) (all_of_take hoq HW HW)
  refine qs 5 ?_
  refine Gh HU HU (AO.neqS HU HU HU (fun c17 => ?_) (fun c17 => ?_))
  ·refine qs 36 ?_
   first | refine Gb Tryz.results14 HU subA (hT ?_) | refine Gb Tryz.results14 HU subA (hF ?_)
   first
   | (intro e; subst e; exact absurd rfl ‹_›)
   | exact fun e => ne_at hkl hkm c60 (by rw [e])
   | exact fun e => ne_at hkl hkm c78 (by rw [e])
   | exact fun e => absurd (congrArg Ty.kind e) ‹_›
   | exact fun e => absurd (congrArg Ty.name e) ‹_›
   | exact fun e => absurd (congrArg Ty.n e) ‹_›
   | exact fun e => c33 (by rw [e])
   | exact fun e => c42 (by rw [e])
   | exact ty_ext c11 c17 c24 (all_of_take hok HW HW) (all_of_take hoq HW HW)
  refine qs 6 ?_
  refine Gh HU HU (GK HU HU HU (fun c24 => ?_) (fun c24 => ?_))
  ·refine qs 29 ?_
   first | refine Gb Tryz.results14 HU subA (hT ?_) | refine Gb Tryz.results14 HU subA (hF ?_)
   first
   | (intro e; subst e; exact absurd rfl ‹_›)
   | exact fun e => ne_at hkl hkm c60 (by rw [e])
   | exact fun e => ne_at hkl hkm c78 (by rw [e])
   | exact fun e => absurd (congrArg Ty.kind e) ‹_›
   | exact fun e => absurd (congrArg Ty.name e) ‹_›
   | exact fun e => absurd (congrArg Ty.n e) ‹_›
   | exact fun e => c33 (by rw [e])
   | exact fun e => c42 (by rw [e])
   | exact ty_ext c11 c17 c24 (all_of_take hok HW HW) (all_of_take hoq HW HW)
  refine qs 4 ?_
  refine Gh HU HU (Gv HU HU (fun hl1_22 => ?_) (hm := m1))
  refine qs 2 ?_
  refine Gh HU HU (Gv HU HU (fun hl1_25 => ?_) (hm := m3))
  refine Gh HU HU (GK HU HU HU (fun c33 => ?_) (fun c33 => ?_))
  ·refine qs 20 ?_
   first | refine Gb Tryz.results14 HU subA (hT ?_) | refine Gb Tryz.results14 HU subA (hF ?_)
   first
   | (intro e; subst e; exact absurd rfl ‹_›)
   | exact fun e => ne_at hkl hkm c60 (by rw [e])
   | exact fun e => ne_at hkl hkm c78 (by rw [e])
   | exact fun e => absurd (congrArg Ty.kind e) ‹_›
   | exact fun e => absurd (congrArg Ty.name e) ‹_›
   | exact fun e => absurd (congrArg Ty.n e) ‹_›
   | exact fun e => c33 (by rw [e])
   | exact fun e => c42 (by rw [e])
   | exact ty_ext c11 c17 c24 (all_of_take hok HW HW) (all_of_take hoq HW HW)
  refine qs 4 ?_
  refine Gh HU HU (Gv HU HU (fun hl1_31 => ?_) (hm := m2))
  refine qs 2 ?_
  refine Gh HU HU (Gv HU HU (fun hl1_34 => ?_) (hm := m4))
  refine Gh HU HU (GK HU HU HU (fun c42 => ?_) (fun c42 => ?_))
  ·refine qs 11 ?_
   first | refine Gb Tryz.results14 HU subA (hT ?_) | refine Gb Tryz.results14 HU subA (hF ?_)
   first
   | (intro e; subst e; exact absurd rfl ‹_›)
   | exact fun e => ne_at hkl hkm c60 (by rw [e])
   | exact fun e => ne_at hkl hkm c78 (by rw [e])
   | exact fun e => absurd (congrArg Ty.kind e) ‹_›
   | exact fun e => absurd (congrArg Ty.name e) ‹_›
   | exact fun e => absurd (congrArg Ty.n e) ‹_›
   | exact fun e => c33 (by rw [e])
   | exact fun e => c42 (by rw [e])
   | exact ty_ext c11 c17 c24 (all_of_take hok HW HW) (all_of_take hoq HW HW)
  refine qs 11 ?_
  refine Ga (Gv HU HU (fun hl3_2 => ?_) (hm := m1))
  refine qs 4 ?_
  refine GN (fun k => k ≤ t.words.length ∧ t.words.take k = u.words.take k) (fun k => [(2, .pointer (some ⟨b2, 0, none⟩)), (3, .pointer (some ⟨b3, 0, none⟩)), (46, .int .i64 t.words.length), (47, .int .i64 (k : Int))]) (fun _ => _) (fun _ => F) (fun k => t.words.length - k) 0 ⟨by omega, by simp⟩ srA (Gk _ _) ?_
  rintro k ⟨hk, hok⟩
  refine qs 2 ?_
  refine Ga (GB HU HU HU (fun c48 => ?_) (fun c48 => ?_))
  ·refine qs 15 ?_
   refine GO (fun _ => false) [(b2, _, _), (b3, _, _)] bxA HU (fun hx hX => ?_)
   have hkl : k < t.words.length := by omega
   have hkm : k < u.words.length := by omega
   have hkk1 := (Gy (hX _ m1)).1
   have hkk3 := (Gy (hX _ m3)).1
   obtain ⟨p1, o1, rfl, at1⟩ := GG (hX _ m1) hkl
   obtain ⟨p2, o2, rfl, at2⟩ := GG (hX _ m3) hkm
   obtain ⟨v1, hv1, hc1⟩ := at1 0 _ rfl
   obtain ⟨v2, hv2, hc2⟩ := at2 0 _ rfl
   cases hc1
   cases hc2
   refine qt [0, 1, 2, 3, 4, 5, 6, 7, 8, 9] ?_
   refine He (i := 10) HU (Y.neqS HU HU) HV HU HU (fun c60 => ?_) (fun c60 => ?_)
   ·replace c60 := ne_of_nbeq c60
    refine Gm HV ?_
    refine qs 13 ?_
    first | refine Gb Tryz.results14 HU subA (hT ?_) | refine Gb Tryz.results14 HU subA (hF ?_)
    first
    | (intro e; subst e; exact absurd rfl ‹_›)
    | exact fun e => ne_at hkl hkm c60 (by rw [e])
    | exact fun e => ne_at hkl hkm c78 (by rw [e])
    | exact fun e => absurd (congrArg Ty.kind e) ‹_›
    | exact fun e => absurd (congrArg Ty.name e) ‹_›
    | exact fun e => absurd (congrArg Ty.n e) ‹_›
    | exact fun e => c33 (by rw [e])
    | exact fun e => c42 (by rw [e])
    | exact ty_ext c11 c17 c24 (all_of_take hok HW HW) (all_of_take hoq HW HW)
   replace c60 := eq_of_nbeqF c60
   refine Gm HV ?_
   refine qs 9 ?_
   refine Gl (k + 1) ⟨by omega, take_step hok hkl hkm c60⟩ HW srA subF
  refine qs 14 ?_
  refine Ga (Gv HU HU (fun hl9_2 => ?_) (hm := m2))
  refine qs 4 ?_
  refine GN (fun k => k ≤ t.kids.length ∧ t.kids.take k = u.kids.take k) (fun k => [(2, .pointer (some ⟨b2, 0, none⟩)), (3, .pointer (some ⟨b3, 0, none⟩)), (64, .int .i64 t.kids.length), (65, .int .i64 (k : Int))]) (fun _ => _) (fun _ => F) (fun k => t.kids.length - k) 0 ⟨by omega, by simp⟩ srA (Gk _ _) ?_
  rintro q ⟨hq, hoq⟩
  refine qs 2 ?_
  refine Ga (GB HU HU HU (fun c66 => ?_) (fun c66 => ?_))
  ·refine qs 15 ?_
   refine GO (fun _ => false) [(b2, _, _), (b3, _, _)] bxA HU (fun hx hX => ?_)
   have hkl : q < t.kids.length := by omega
   have hkm : q < u.kids.length := by omega
   have hkk1 := (Gy (hX _ m2)).1
   have hkk3 := (Gy (hX _ m4)).1
   obtain ⟨p1, o1, rfl, at1⟩ := GG (hX _ m2) hkl
   obtain ⟨p2, o2, rfl, at2⟩ := GG (hX _ m4) hkm
   obtain ⟨v1, hv1, hc1⟩ := at1 0 _ rfl
   obtain ⟨v2, hv2, hc2⟩ := at2 0 _ rfl
   cases hc1
   cases hc2
   refine qt [0, 1, 2, 3, 4, 5, 6, 7, 8, 9] ?_
   refine He (i := 10) HU (Y.neq HU HU) HV HU HU (fun c78 => ?_) (fun c78 => ?_)
   ·replace c78 := ne_of_bne c78
    refine Gm HV ?_
    refine qs 13 ?_
    first | refine Gb Tryz.results14 HU subA (hT ?_) | refine Gb Tryz.results14 HU subA (hF ?_)
    first
    | (intro e; subst e; exact absurd rfl ‹_›)
    | exact fun e => ne_at hkl hkm c60 (by rw [e])
    | exact fun e => ne_at hkl hkm c78 (by rw [e])
    | exact fun e => absurd (congrArg Ty.kind e) ‹_›
    | exact fun e => absurd (congrArg Ty.name e) ‹_›
    | exact fun e => absurd (congrArg Ty.n e) ‹_›
    | exact fun e => c33 (by rw [e])
    | exact fun e => c42 (by rw [e])
    | exact ty_ext c11 c17 c24 (all_of_take hok HW HW) (all_of_take hoq HW HW)
   replace c78 := eq_of_bneF c78
   refine Gm HV ?_
   refine qs 9 ?_
   refine Gl (q + 1) ⟨by omega, take_step hoq hkl hkm c78⟩ HW srA subF
  refine qs 15 ?_
  first | refine Gb Tryz.results14 HU subA (hT ?_) | refine Gb Tryz.results14 HU subA (hF ?_)
  first
  | (intro e; subst e; exact absurd rfl ‹_›)
  | exact fun e => ne_at hkl hkm c60 (by rw [e])
  | exact fun e => ne_at hkl hkm c78 (by rw [e])
  | exact fun e => absurd (congrArg Ty.kind e) ‹_›
  | exact fun e => absurd (congrArg Ty.name e) ‹_›
  | exact fun e => absurd (congrArg Ty.n e) ‹_›
  | exact fun e => c33 (by rw [e])
  | exact fun e => c42 (by rw [e])
  | exact ty_ext c11 c17 c24 (all_of_take hok HW HW) (all_of_take hoq HW HW)
theorem ty_cells {hx : H} {b o : Nat} {t : Ty} (hat : AtR hx b o (eTy t)) : ∃ a1 k1 c1 a2 k2 c2, (∀ (j : Nat) (v : Value), [Value.int .i64 t.kind, S t.name, .int .i64 t.n, .slice a1 k1 c1, .slice a2 k2 c2][j]? = some v → hx b (o + j) = some v) ∧ (fW t a1 k1 c1).holds hx ∧ (fK t a2 k2 c2).holds hx := by
  obtain ⟨vs, fs, _, h1, h2, a1, k1, c1, a2, k2, c2, rfl, rfl⟩ := absorb_of (eTy t) o hat (fun vs fs => ∃ a1 k1 c1 a2 k2 c2, vs = [Value.int .i64 t.kind, S t.name, .int .i64 t.n, .slice a1 k1 c1, .slice a2 k2 c2] ∧ fs = [fW t a1 k1 c1, fK t a2 k2 c2]) (by
    intro a1 k1 c1 a2 k2 c2
    exact ⟨a1, k1, c1, a2, k2, c2, rfl, rfl⟩)
  exact ⟨a1, k1, c1, a2, k2, c2, h1, h2 _ (by simp), h2 _ (by simp)⟩
abbrev fL (l : List Ty) (a : Option Addr) (k c : Nat) : Fact := .slc (.slice a k c) 5 (l.map eTy)
theorem ref_Arenas_c (l m : List Ty) {a1 a2 : Option Addr} {k1 c1 k2 c2 : Nat} (hT : l = m → R (.bool true) L F) (hF : l ≠ m → R (.bool false) L F)
    (m1 : fL l a1 k1 c1 ∈ F) (m2 : fL m a2 k2 c2 ∈ F) : ACalls Tryz.prog W0 13 #[.slice a1 k1 c1, .slice a2 k2 c2] L F R := by
  refine Ge Tryz.func13 HU Tryz.ntmps13 HU ?_
  refine qs 9 ?_
  refine Ga (Gv HU HU (fun hl1 => ?_) (hm := m1))
  refine qs 1 ?_
  refine Ga (Gv HU HU (fun hl2 => ?_) (hm := m2))
  refine Ga (GK HU HU HU (fun c10 => ?_) (fun c10 => ?_))
  ·refine qs 10 ?_
   first | refine Gb Tryz.results13 HU subA (hT ?_) | refine Gb Tryz.results13 HU subA (hF ?_)
   first
   | exact fun e => ne_at hkl hkm c24 (by rw [e])
   | exact fun e => c10 (by rw [e])
   | exact all_of_take hok HW HW
  refine qs 9 ?_
  refine Ga (Gv HU HU (fun hl3 => ?_) (hm := m1))
  refine qs 4 ?_
  refine GN (fun k => k ≤ l.length ∧ l.take k = m.take k) (fun k => [(0, .slice a1 k1 c1), (1, .slice a2 k2 c2), (12, .int .i64 l.length), (13, .int .i64 (k : Int))]) (fun _ => L) (fun _ => F) (fun k => l.length - k) 0 ⟨by omega, by simp⟩ srA (Gk _ _) ?_
  rintro k ⟨hk, hok⟩
  refine qs 2 ?_
  refine Ga (GB HU HU HU (fun c14 => ?_) (fun c14 => ?_))
  ·refine qs 15 ?_
   refine GO (fun _ => false) [] bxA HU (fun hx hX => ?_)
   have hkl : k < l.length := by omega
   have hkm : k < m.length := by omega
   have hkk1 := (Gy (hX _ m1)).1
   have hkk3 := (Gy (hX _ m2)).1
   obtain ⟨p1, o1, rfl, at1⟩ := GG (hX _ m1) hkl
   obtain ⟨p2, o2, rfl, at2⟩ := GG (hX _ m2) hkm
   obtain ⟨w1, x1, y1, w2, x2, y2, hv1, hw1, hw2⟩ := ty_cells at1
   obtain ⟨w3, x3, y3, w4, x4, y4, hv2, hw3, hw4⟩ := ty_cells at2
   refine Hv hw1 memA (Hv hw2 memA (Hv hw3 memA (Hv hw4 memA ?_)))
   refine qt [0, 1, 2] ?_
   refine GV (i := 3) HU (HJ HU HU hv1) HV HV HU HU HU ?_
   refine qt [4, 5, 6] ?_
   refine GV (i := 7) HU (HJ HU HU hv2) HV HV HU HU HU ?_
   refine Gf (i := 8) HV HU HU (fun _ => ?_)
   refine Gd HU HU (ref_Like_c l[k] m[k] (fun c24 => ?_) (fun c24 => ?_) memA memA memA memA)
   all_goals refine Gc bxA memB ?_
   ·refine qt [9] ?_
    refine Gm HV ?_
    refine qs 9 ?_
    refine Gl (k + 1) ⟨by omega, take_step hok hkl hkm c24⟩ HW srA subF
   refine qt [9] ?_
   refine Gm HV ?_
   refine qs 13 ?_
   first | refine Gb Tryz.results13 HU subA (hT ?_) | refine Gb Tryz.results13 HU subA (hF ?_)
   first
   | exact fun e => ne_at hkl hkm c24 (by rw [e])
   | exact fun e => c10 (by rw [e])
   | exact all_of_take hok HW HW
  refine qs 15 ?_
  first | refine Gb Tryz.results13 HU subA (hT ?_) | refine Gb Tryz.results13 HU subA (hF ?_)
  first
  | exact fun e => ne_at hkl hkm c24 (by rw [e])
  | exact fun e => c10 (by rw [e])
  | exact all_of_take hok HW HW
end
end Go.Sy
namespace Go.Sy
abbrev GW := @ne_at
abbrev Hm := @all_of_take
end Go.Sy
namespace Go.Sy
open Go
structure Key where
  kind : Int
  n : Int
  name : List UInt8
  words : List UInt8
  kids : List UInt8
  lengths : List UInt8
deriving DecidableEq
def lensOf (ws : List (List UInt8)) : List Int := ws.map fun w => (w.length : Int)
def keyT (t : Ty) : Key := ⟨t.kind, t.n, t.name, t.words.flatten, commas t.kids, commas (lensOf t.words)⟩
theorem key_inj {t u : Ty} (h : keyT t = keyT u) : t = u := by
  unfold keyT at h
  simp only [Key.mk.injEq] at h
  obtain ⟨h1, h2, h3, h4, h5, h6⟩ := h
  have h7 := commas_inj _ _ h6
  have h8 : t.words.map List.length = u.words.map List.length := by
    have := congrArg (List.map Int.toNat) h7
    simpa [lensOf, Function.comp_def] using this
  exact ty_ext h1 h3 h2 (flatten_inj _ _ h8 h4) (commas_inj _ _ h5)
def fieldN (w : List UInt8) : List UInt8 := match w with | 43 :: r => r | _ => w
def fieldAt (ws : List (List UInt8)) (i : Nat) (hi : i < ws.length) : Prop :=
  isName (fieldN ws[i]) = true ∧ ∀ j (hj : j < i), fieldN ws[j] = fieldN ws[i] → fieldN ws[i] = [95]
def fieldsP (ws : List (List UInt8)) : Prop := ∀ i (hi : i < ws.length), fieldAt ws i hi
def markP (w : List UInt8) : Prop := w = [61] ∨ w = [126]
def kindAt (l : List Ty) (k : Int) : Int := ((l[k.toNat]?).map Ty.kind).getD 0
def kidAt (t : Ty) (i : Nat) : Int := t.kids.getD i 0
def elemAtP (l : List Ty) (t : Ty) (i : Nat) (hi : i < t.words.length) : Prop :=
  (markP t.words[i] ∧ 2 ≤ t.n ∧ kindAt l (kidAt t i) ≠ 7 ∧ kindAt l (kidAt t i) ≠ 9 ∧ ¬(14 ≤ kidAt t i ∧ kidAt t i ≤ 19) ∧ (0 < i → markP (t.words.getD (i - 1) []) → kidAt t (i - 1) < kidAt t i)) ∨
  (¬ markP t.words[i] ∧ isName t.words[i] = true ∧ kindAt l (kidAt t i) = 5 ∧ (0 < i → ¬ markP (t.words.getD (i - 1) []) ∧ Op.bytesLess (t.words.getD (i - 1) []) t.words[i] = true))
def elemsP (l : List Ty) (t : Ty) : Prop := t.words.length = t.kids.length ∧ 0 ≤ t.n ∧ t.n ≤ 3 ∧ ∀ i (hi : i < t.words.length), elemAtP l t i hi
def namedP (s : List UInt8) : Prop := (cutD 46 s).2.2 = true ∧ isName (cutD 46 s).1 = true ∧ isName (cutD 46 s).2.1 = true
def madeK (l : List Ty) (t : Ty) : Prop :=
  (t.kind = 1 ∧ t.n = 0 ∧ t.kids.length = 1) ∨ (t.kind = 2 ∧ t.n = 0 ∧ t.kids.length = 1) ∨ (t.kind = 3 ∧ 0 ≤ t.n ∧ t.n ≤ 2147483648 ∧ t.kids.length = 1) ∨ (t.kind = 4 ∧ t.n = 0 ∧ t.kids.length = 2) ∨ (t.kind = 5 ∧ (t.n = 0 ∨ t.n = 1 ∧ 0 < t.kids.length)) ∨
  (t.kind = 6 ∧ t.n = 0 ∧ fieldsP t.words ∧ t.words.length = t.kids.length) ∨ (t.kind = 7 ∧ elemsP l t) ∨ (t.kind = 8 ∧ t.n = 0 ∧ namedP t.name) ∨ (t.kind = 9 ∧ 0 ≤ t.n ∧ t.n < 16 ∧ t.kids.length = 0)
def kidsP (l : List Ty) (t : Ty) : Prop := ∀ k ∈ t.kids, 0 ≤ k ∧ k < l.length
def madeP (l : List Ty) (t : Ty) : Prop :=
  kidsP l t ∧ t.kids.length ≤ 16 ∧ (t.kind ≠ 8 → t.name = []) ∧ (t.kind ≠ 6 → t.kind ≠ 7 → t.words = []) ∧ madeK l t
def startNames : List (List UInt8) := [[98, 111, 111, 108], [115, 116, 114, 105, 110, 103], [105, 110, 116], [105, 110, 116, 56], [105, 110, 116, 49, 54], [105, 110, 116, 51, 50], [105, 110, 116, 54, 52], [117, 105, 110, 116], [117, 105, 110, 116, 56], [117, 105, 110, 116, 49, 54], [117, 105, 110, 116, 51, 50], [117, 105, 110, 116, 54, 52], [102, 108, 111, 97, 116, 51, 50], [102, 108, 111, 97, 116, 54, 52], [117, 110, 116, 121, 112, 101, 100, 32, 98, 111, 111, 108], [117, 110, 116, 121, 112, 101, 100, 32, 115, 116, 114, 105, 110, 103], [117, 110, 116, 121, 112, 101, 100, 32, 105, 110, 116], [117, 110, 116, 121, 112, 101, 100, 32, 114, 117, 110, 101], [117, 110, 116, 121, 112, 101, 100, 32, 102, 108, 111, 97, 116], [117, 110, 116, 121, 112, 101, 100, 32, 110, 105, 108]]
def basicT (s : List UInt8) : Ty := ⟨0, s, 0, [], []⟩
def startL : List Ty := startNames.map basicT ++ [⟨7, [], 0, [], []⟩, ⟨7, [], 1, [], []⟩]
def rowAt (l : List Ty) (i : Nat) (hi : i < l.length) : Prop := if i < 22 then l[i] = startL.getD i (basicT []) else madeP (l.take i) l[i] ∧ l[i] ∉ l.take i
def rightP (l : List Ty) : Prop := 22 ≤ l.length ∧ l.length ≤ 400 ∧ ∀ i (hi : i < l.length), rowAt l i hi
theorem start_once : startL.Nodup := by decide
theorem right_once {l : List Ty} (h : rightP l) : ∀ i (hi : i < l.length), l[i] ∉ l.take i := by
  intro i hi
  have hr := h.2.2 i hi
  unfold rowAt at hr
  by_cases c : i < 22
  · rw [if_pos c] at hr
    intro hm
    obtain ⟨j, hj, e⟩ := List.getElem_of_mem hm
    have hji : j < i := by simp at hj; omega
    rw [List.getElem_take] at e
    have hr2 := h.2.2 j HW
    unfold rowAt at hr2
    rw [if_pos HW] at hr2
    rw [hr, hr2] at e
    have hl : startL.length = 22 := by decide
    have e2 : startL[j]'HW = startL[i]'HW := by
      have g : ∀ k (hk : k < startL.length), startL.getD k (basicT []) = startL[k] := by intro k hk; simp [List.getD, List.getElem?_eq_getElem hk]
      rw [← g j HW, ← g i HW]
      exact e
    have := (List.getElem_inj (h₀ := by omega) (h₁ := by omega) start_once).1 e2
    omega
  rw [if_neg c] at hr
  exact hr.2
end Go.Sy
namespace Go.Sy
abbrev HT := @right_once
end Go.Sy
