/- Joined of my own texts: Facts, Src, Typ1, TyP. -/
import Derived.Test.YtinolpaapcpijaaGreatDoorQ13
import Derived.Test.YtinolpaapcpijaaGreatDoorProg
import Derived.KernelRfl
namespace Go.Sy
open Go Go.Proofs
set_option maxRecDepth 100000
instance : ScT Tryz.prog 3 := ScT.of Tryz.underlying3 rfl Ja
instance : ScT Tryz.prog 4 := ScT.of Tryz.underlying4 rfl Ja
instance : ScT Tryz.prog 9 := ScT.of Tryz.underlying9 rfl Ja
instance : ScT Tryz.prog 22 := ScT.of Tryz.underlying22 rfl Ja
instance : ScT Tryz.prog 23 := ScT.of Tryz.underlying23 rfl Ja
instance : AgT Tryz.prog 25 2 := AgT.of Tryz.underlying25 Ja
instance : ScT Tryz.prog 26 := ScT.of Tryz.underlying26 rfl Ja
instance : ScT Tryz.prog 27 := ScT.of Tryz.underlying27 rfl Ja
instance : AgT Tryz.prog 29 5 := AgT.of Tryz.underlying29 Ja
instance : ScT Tryz.prog 33 := ScT.of Tryz.underlying33 rfl Ja
instance : ScT Tryz.prog 40 := ScT.of Tryz.underlying40 rfl Ja
instance : AgT Tryz.prog 44 3 := AgT.of Tryz.underlying44 Ja
instance : AgT Tryz.prog 47 5 := AgT.of Tryz.underlying47 Ja
instance : AgT Tryz.prog 53 8 := AgT.of Tryz.underlying53 Ja
instance : AgT Tryz.prog 66 5 := AgT.of Tryz.underlying66 Ja
instance : AgT Tryz.prog 78 4 := AgT.of Tryz.underlying78 Ja
instance : ScT Tryz.prog 100 := ScT.of Tryz.underlying100 rfl Ja
instance : ScT Tryz.prog 101 := ScT.of Tryz.underlying101 rfl Ja
instance : AgT Tryz.prog 103 6 := AgT.of Tryz.underlying103 Ja
instance : ScT Tryz.prog 105 := ScT.of Tryz.underlying105 rfl Ja
instance : ScT Tryz.prog 111 := ScT.of Tryz.underlying111 rfl Ja
instance : ScT Tryz.prog 118 := ScT.of Tryz.underlying118 rfl Ja
instance : AgT Tryz.prog 123 5 := AgT.of Tryz.underlying123 Ja
instance : AgT Tryz.prog 131 2 := AgT.of Tryz.underlying131 Ja
instance : ScT Tryz.prog 138 := ScT.of Tryz.underlying138 rfl Ja
instance : AgT Tryz.prog 144 2 := AgT.of Tryz.underlying144 Ja
instance : ScT Tryz.prog 145 := ScT.of Tryz.underlying145 rfl Ja
instance : AgT Tryz.prog 154 2 := AgT.of Tryz.underlying154 Ja
instance : AgT Tryz.prog 163 6 := AgT.of Tryz.underlying163 Ja
instance : AgT Tryz.prog 182 4 := AgT.of Tryz.underlying182 Ja
instance : AgT Tryz.prog 186 4 := AgT.of Tryz.underlying186 Ja
instance : ScT Tryz.prog 220 := ScT.of Tryz.underlying220 rfl Ja
instance : ScT Tryz.prog 221 := ScT.of Tryz.underlying221 rfl Ja
instance : AgT Tryz.prog 243 3 := AgT.of Tryz.underlying243 Ja
instance : AgT Tryz.prog 266 2 := AgT.of Tryz.underlying266 Ja
instance : ZeT Tryz.prog 3 (.int .i64 0) := ZeT.of Ja
instance : ZeT Tryz.prog 4 (.bool false) := ZeT.of Ja
instance : ZeT Tryz.prog 5 (.int .u8 0) := ZeT.of Ja
instance : ZeT Tryz.prog 9 (.string ⟨#[]⟩) := ZeT.of Ja
instance : ZeT Tryz.prog 25 (.agg #[.slice none 0 0, .slice none 0 0]) := ZeT.of Ja
instance : ZeT Tryz.prog 29 (.agg #[.int .i64 0, .string ⟨#[]⟩, .int .i64 0, .slice none 0 0, .slice none 0 0]) := ZeT.of Ja
instance : ZeT Tryz.prog 44 (.agg #[.string ⟨#[]⟩, .bool false, .int .i64 0]) := ZeT.of Ja
instance : ZeT Tryz.prog 47 (.agg #[.bool false, .int .i64 0, .bool false, .bool false, .slice none 0 0]) := ZeT.of Ja
instance : ZeT Tryz.prog 53 (.agg #[.slice none 0 0, .slice none 0 0, .bool false, .int .i64 0, .bool false, .bool false, .slice none 0 0, .int .i64 0]) := ZeT.of Ja
instance : ZeT Tryz.prog 66 (.agg #[.slice none 0 0, .slice none 0 0, .bool false, .slice none 0 0, .int .i64 0]) := ZeT.of Ja
instance : ZeT Tryz.prog 78 (.agg #[.string ⟨#[]⟩, .slice none 0 0, .int .i64 0, .slice none 0 0]) := ZeT.of Ja
instance : ZeT Tryz.prog 103 (.agg #[.slice none 0 0, .slice none 0 0, .slice none 0 0, .slice none 0 0, .slice none 0 0, .int .i64 0]) := ZeT.of Ja
instance : ZeT Tryz.prog 105 (.slice none 0 0) := ZeT.of Ja
instance : ZeT Tryz.prog 123 (.agg #[.slice none 0 0, .slice none 0 0, .int .i64 0, .slice none 0 0, .int .i64 0]) := ZeT.of Ja
instance : ZeT Tryz.prog 131 (.agg #[.string ⟨#[]⟩, .int .i64 0]) := ZeT.of Ja
instance : ZeT Tryz.prog 144 (.agg #[.string ⟨#[]⟩, .int .i64 0]) := ZeT.of Ja
instance : ZeT Tryz.prog 145 (.pointer none) := ZeT.of Ja
instance : ZeT Tryz.prog 154 (.agg #[.int .i64 0, .slice none 0 0]) := ZeT.of Ja
instance : ZeT Tryz.prog 163 (.agg #[.int .i64 0, .int .i64 0, .string ⟨#[]⟩, .string ⟨#[]⟩, .string ⟨#[]⟩, .string ⟨#[]⟩]) := ZeT.of Ja
instance : ZeT Tryz.prog 182 (.agg #[.int .i64 0, .bool false, .bool false, .slice none 0 0]) := ZeT.of Ja
instance : ZeT Tryz.prog 186 (.agg #[.int .i64 0, .bool false, .bool false, .slice none 0 0]) := ZeT.of Ja
instance : ZeT Tryz.prog 188 (.agg #[.int .i64 0, .slice none 0 0]) := ZeT.of Ja
instance : ZeT Tryz.prog 223 (.agg #[.pointer none, .slice none 0 0]) := ZeT.of Ja
instance : ZeT Tryz.prog 243 (.agg #[.slice none 0 0, .int .i64 0, .int .i64 0]) := ZeT.of Ja
instance : ZeT Tryz.prog 266 (.agg #[.string ⟨#[]⟩, .int .i64 0]) := ZeT.of Ja
instance : FdT Tryz.prog 25 0 0 := FdT.of (k := 1) Tryz.underlying25 rfl rfl Ja rfl
instance : FdT Tryz.prog 25 1 1 := FdT.of (k := 1) Tryz.underlying25 rfl rfl Ja rfl
instance : FdT Tryz.prog 29 0 0 := FdT.of (k := 1) Tryz.underlying29 rfl rfl Ja rfl
instance : FdT Tryz.prog 29 1 1 := FdT.of (k := 1) Tryz.underlying29 rfl rfl Ja rfl
instance : FdT Tryz.prog 29 2 2 := FdT.of (k := 1) Tryz.underlying29 rfl rfl Ja rfl
instance : FdT Tryz.prog 29 3 3 := FdT.of (k := 1) Tryz.underlying29 rfl rfl Ja rfl
instance : FdT Tryz.prog 29 4 4 := FdT.of (k := 1) Tryz.underlying29 rfl rfl Ja rfl
instance : FdT Tryz.prog 44 0 0 := FdT.of (k := 1) Tryz.underlying44 rfl rfl Ja rfl
instance : FdT Tryz.prog 44 1 1 := FdT.of (k := 1) Tryz.underlying44 rfl rfl Ja rfl
instance : FdT Tryz.prog 44 2 2 := FdT.of (k := 1) Tryz.underlying44 rfl rfl Ja rfl
instance : FdT Tryz.prog 47 0 0 := FdT.of (k := 1) Tryz.underlying47 rfl rfl Ja rfl
instance : FdT Tryz.prog 47 1 1 := FdT.of (k := 1) Tryz.underlying47 rfl rfl Ja rfl
instance : FdT Tryz.prog 47 2 2 := FdT.of (k := 1) Tryz.underlying47 rfl rfl Ja rfl
instance : FdT Tryz.prog 47 3 3 := FdT.of (k := 1) Tryz.underlying47 rfl rfl Ja rfl
instance : FdT Tryz.prog 53 1 2 := FdT.of (k := 5) Tryz.underlying53 rfl rfl Ja rfl
instance : FdT Tryz.prog 53 2 7 := FdT.of (k := 1) Tryz.underlying53 rfl rfl Ja rfl
instance : FdT Tryz.prog 66 0 0 := FdT.of (k := 2) Tryz.underlying66 rfl rfl Ja rfl
instance : FdT Tryz.prog 66 1 2 := FdT.of (k := 1) Tryz.underlying66 rfl rfl Ja rfl
instance : FdT Tryz.prog 66 2 3 := FdT.of (k := 1) Tryz.underlying66 rfl rfl Ja rfl
instance : FdT Tryz.prog 66 3 4 := FdT.of (k := 1) Tryz.underlying66 rfl rfl Ja rfl
instance : FdT Tryz.prog 78 0 0 := FdT.of (k := 1) Tryz.underlying78 rfl rfl Ja rfl
instance : FdT Tryz.prog 78 1 1 := FdT.of (k := 1) Tryz.underlying78 rfl rfl Ja rfl
instance : FdT Tryz.prog 78 2 2 := FdT.of (k := 1) Tryz.underlying78 rfl rfl Ja rfl
instance : FdT Tryz.prog 78 3 3 := FdT.of (k := 1) Tryz.underlying78 rfl rfl Ja rfl
instance : FdT Tryz.prog 103 0 0 := FdT.of (k := 2) Tryz.underlying103 rfl rfl Ja rfl
instance : FdT Tryz.prog 103 1 2 := FdT.of (k := 1) Tryz.underlying103 rfl rfl Ja rfl
instance : FdT Tryz.prog 103 2 3 := FdT.of (k := 1) Tryz.underlying103 rfl rfl Ja rfl
instance : FdT Tryz.prog 103 3 4 := FdT.of (k := 1) Tryz.underlying103 rfl rfl Ja rfl
instance : FdT Tryz.prog 103 4 5 := FdT.of (k := 1) Tryz.underlying103 rfl rfl Ja rfl
instance : FdT Tryz.prog 123 0 0 := FdT.of (k := 2) Tryz.underlying123 rfl rfl Ja rfl
instance : FdT Tryz.prog 123 1 2 := FdT.of (k := 1) Tryz.underlying123 rfl rfl Ja rfl
instance : FdT Tryz.prog 123 2 3 := FdT.of (k := 1) Tryz.underlying123 rfl rfl Ja rfl
instance : FdT Tryz.prog 123 3 4 := FdT.of (k := 1) Tryz.underlying123 rfl rfl Ja rfl
instance : FdT Tryz.prog 131 0 0 := FdT.of (k := 1) Tryz.underlying131 rfl rfl Ja rfl
instance : FdT Tryz.prog 131 1 1 := FdT.of (k := 1) Tryz.underlying131 rfl rfl Ja rfl
instance : FdT Tryz.prog 140 0 0 := FdT.of (k := 2) Tryz.underlying140 rfl rfl Ja rfl
instance : FdT Tryz.prog 140 1 2 := FdT.of (k := 1) Tryz.underlying140 rfl rfl Ja rfl
instance : FdT Tryz.prog 140 2 3 := FdT.of (k := 1) Tryz.underlying140 rfl rfl Ja rfl
instance : FdT Tryz.prog 140 3 4 := FdT.of (k := 1) Tryz.underlying140 rfl rfl Ja rfl
instance : FdT Tryz.prog 144 0 0 := FdT.of (k := 1) Tryz.underlying144 rfl rfl Ja rfl
instance : FdT Tryz.prog 144 1 1 := FdT.of (k := 1) Tryz.underlying144 rfl rfl Ja rfl
instance : FdT Tryz.prog 147 0 0 := FdT.of (k := 2) Tryz.underlying147 rfl rfl Ja rfl
instance : FdT Tryz.prog 147 1 2 := FdT.of (k := 1) Tryz.underlying147 rfl rfl Ja rfl
instance : FdT Tryz.prog 154 0 0 := FdT.of (k := 1) Tryz.underlying154 rfl rfl Ja rfl
instance : FdT Tryz.prog 154 1 1 := FdT.of (k := 1) Tryz.underlying154 rfl rfl Ja rfl
instance : FdT Tryz.prog 163 3 3 := FdT.of (k := 1) Tryz.underlying163 rfl rfl Ja rfl
instance : FdT Tryz.prog 163 4 4 := FdT.of (k := 1) Tryz.underlying163 rfl rfl Ja rfl
instance : FdT Tryz.prog 163 5 5 := FdT.of (k := 1) Tryz.underlying163 rfl rfl Ja rfl
instance : FdT Tryz.prog 182 0 0 := FdT.of (k := 1) Tryz.underlying182 rfl rfl Ja rfl
instance : FdT Tryz.prog 182 1 1 := FdT.of (k := 1) Tryz.underlying182 rfl rfl Ja rfl
instance : FdT Tryz.prog 182 2 2 := FdT.of (k := 1) Tryz.underlying182 rfl rfl Ja rfl
instance : FdT Tryz.prog 182 3 3 := FdT.of (k := 1) Tryz.underlying182 rfl rfl Ja rfl
instance : FdT Tryz.prog 186 0 0 := FdT.of (k := 1) Tryz.underlying186 rfl rfl Ja rfl
instance : FdT Tryz.prog 186 1 1 := FdT.of (k := 1) Tryz.underlying186 rfl rfl Ja rfl
instance : FdT Tryz.prog 186 2 2 := FdT.of (k := 1) Tryz.underlying186 rfl rfl Ja rfl
instance : FdT Tryz.prog 186 3 3 := FdT.of (k := 1) Tryz.underlying186 rfl rfl Ja rfl
instance : FdT Tryz.prog 188 0 0 := FdT.of (k := 1) Tryz.underlying188 rfl rfl Ja rfl
instance : FdT Tryz.prog 188 1 1 := FdT.of (k := 1) Tryz.underlying188 rfl rfl Ja rfl
instance : FdT Tryz.prog 223 0 0 := FdT.of (k := 1) Tryz.underlying223 rfl rfl Ja rfl
instance : FdT Tryz.prog 223 1 1 := FdT.of (k := 1) Tryz.underlying223 rfl rfl Ja rfl
instance : FdT Tryz.prog 243 0 0 := FdT.of (k := 1) Tryz.underlying243 rfl rfl Ja rfl
instance : FdT Tryz.prog 243 1 1 := FdT.of (k := 1) Tryz.underlying243 rfl rfl Ja rfl
instance : FdT Tryz.prog 243 2 2 := FdT.of (k := 1) Tryz.underlying243 rfl rfl Ja rfl
instance : FdT Tryz.prog 266 0 0 := FdT.of (k := 1) Tryz.underlying266 rfl rfl Ja rfl
instance : FdT Tryz.prog 266 1 1 := FdT.of (k := 1) Tryz.underlying266 rfl rfl Ja rfl
instance : BoT Tryz.prog 4 := ⟨Tryz.underlying4⟩
instance : StT Tryz.prog 9 := ⟨Tryz.underlying9⟩
instance : SlT Tryz.prog 22 29 5 80 := SlT.of Tryz.underlying22 Ja rfl
instance : SlT Tryz.prog 23 78 4 72 := SlT.of Tryz.underlying23 Ja rfl
instance : SlT Tryz.prog 26 9 1 16 := SlT.of Tryz.underlying26 Ja rfl
instance : SlT Tryz.prog 27 3 1 8 := SlT.of Tryz.underlying27 Ja rfl
instance : SlT Tryz.prog 40 44 3 32 := SlT.of Tryz.underlying40 Ja rfl
instance : SlT Tryz.prog 100 186 4 40 := SlT.of Tryz.underlying100 Ja rfl
instance : SlT Tryz.prog 101 188 2 32 := SlT.of Tryz.underlying101 Ja rfl
instance : SlT Tryz.prog 105 47 5 48 := SlT.of Tryz.underlying105 Ja rfl
instance : SlT Tryz.prog 118 144 2 24 := SlT.of Tryz.underlying118 Ja rfl
instance : SlT Tryz.prog 128 131 2 24 := SlT.of Tryz.underlying128 Ja rfl
instance : MpT Tryz.prog 138 3 4 := ⟨Tryz.underlying138⟩
instance : KyT Tryz.prog 3 (fun i : Int => .int .i64 i) := KyT.int Tryz.underlying3
instance : SlT Tryz.prog 151 182 4 40 := SlT.of Tryz.underlying151 Ja rfl
instance : SlT Tryz.prog 152 154 2 32 := SlT.of Tryz.underlying152 Ja rfl
instance : MpT Tryz.prog 161 163 4 := ⟨Tryz.underlying161⟩
instance : SlT Tryz.prog 221 5 1 1 := SlT.of Tryz.underlying221 Ja rfl
instance : MpT Tryz.prog 236 3 3 := ⟨Tryz.underlying236⟩
instance : SlT Tryz.prog 237 4 1 1 := SlT.of Tryz.underlying237 Ja rfl
instance : MpT Tryz.prog 261 9 4 := ⟨Tryz.underlying261⟩
instance : KyT Tryz.prog 9 S := KyT.str Tryz.underlying9
instance : SlT Tryz.prog 263 266 2 24 := SlT.of Tryz.underlying263 Ja rfl
instance : BdT Tryz.prog 25 [.slice none 0 0, .slice none 0 0] [(0, 1), (1, 1)] := BdT.of Tryz.underlying25 Ja Ja
instance : BdT Tryz.prog 29 [.int .i64 0, .string ⟨#[]⟩, .int .i64 0, .slice none 0 0, .slice none 0 0] [(0, 1), (1, 1), (2, 1), (3, 1), (4, 1)] := BdT.of Tryz.underlying29 Ja Ja
instance : BdT Tryz.prog 44 [.string ⟨#[]⟩, .bool false, .int .i64 0] [(0, 1), (1, 1), (2, 1)] := BdT.of Tryz.underlying44 Ja Ja
instance : BdT Tryz.prog 47 [.bool false, .int .i64 0, .bool false, .bool false, .slice none 0 0] [(0, 1), (1, 1), (2, 1), (3, 1), (4, 1)] := BdT.of Tryz.underlying47 Ja Ja
instance : BdT Tryz.prog 53 [.slice none 0 0, .slice none 0 0, .bool false, .int .i64 0, .bool false, .bool false, .slice none 0 0, .int .i64 0] [(0, 2), (2, 5), (7, 1)] := BdT.of Tryz.underlying53 Ja Ja
instance : BdT Tryz.prog 66 [.slice none 0 0, .slice none 0 0, .bool false, .slice none 0 0, .int .i64 0] [(0, 2), (2, 1), (3, 1), (4, 1)] := BdT.of Tryz.underlying66 Ja Ja
instance : BdT Tryz.prog 78 [.string ⟨#[]⟩, .slice none 0 0, .int .i64 0, .slice none 0 0] [(0, 1), (1, 1), (2, 1), (3, 1)] := BdT.of Tryz.underlying78 Ja Ja
instance : BdT Tryz.prog 103 [.slice none 0 0, .slice none 0 0, .slice none 0 0, .slice none 0 0, .slice none 0 0, .int .i64 0] [(0, 2), (2, 1), (3, 1), (4, 1), (5, 1)] := BdT.of Tryz.underlying103 Ja Ja
instance : BdT Tryz.prog 123 [.slice none 0 0, .slice none 0 0, .int .i64 0, .slice none 0 0, .int .i64 0] [(0, 2), (2, 1), (3, 1), (4, 1)] := BdT.of Tryz.underlying123 Ja Ja
instance : BdT Tryz.prog 131 [.string ⟨#[]⟩, .int .i64 0] [(0, 1), (1, 1)] := BdT.of Tryz.underlying131 Ja Ja
instance : BdT Tryz.prog 140 [.slice none 0 0, .slice none 0 0, .slice none 0 0, .map none, .int .i64 0] [(0, 2), (2, 1), (3, 1), (4, 1)] := BdT.of Tryz.underlying140 Ja Ja
instance : BdT Tryz.prog 144 [.string ⟨#[]⟩, .int .i64 0] [(0, 1), (1, 1)] := BdT.of Tryz.underlying144 Ja Ja
instance : BdT Tryz.prog 147 [.slice none 0 0, .slice none 0 0, .int .i64 0] [(0, 2), (2, 1)] := BdT.of Tryz.underlying147 Ja Ja
instance : BdT Tryz.prog 154 [.int .i64 0, .slice none 0 0] [(0, 1), (1, 1)] := BdT.of Tryz.underlying154 Ja Ja
instance : BdT Tryz.prog 163 [.int .i64 0, .int .i64 0, .string ⟨#[]⟩, .string ⟨#[]⟩, .string ⟨#[]⟩, .string ⟨#[]⟩] [(0, 1), (1, 1), (2, 1), (3, 1), (4, 1), (5, 1)] := BdT.of Tryz.underlying163 Ja Ja
instance : BdT Tryz.prog 182 [.int .i64 0, .bool false, .bool false, .slice none 0 0] [(0, 1), (1, 1), (2, 1), (3, 1)] := BdT.of Tryz.underlying182 Ja Ja
instance : BdT Tryz.prog 186 [.int .i64 0, .bool false, .bool false, .slice none 0 0] [(0, 1), (1, 1), (2, 1), (3, 1)] := BdT.of Tryz.underlying186 Ja Ja
instance : BdT Tryz.prog 188 [.int .i64 0, .slice none 0 0] [(0, 1), (1, 1)] := BdT.of Tryz.underlying188 Ja Ja
instance : BdT Tryz.prog 243 [.slice none 0 0, .int .i64 0, .int .i64 0] [(0, 1), (1, 1), (2, 1)] := BdT.of Tryz.underlying243 Ja Ja
instance : BdT Tryz.prog 266 [.string ⟨#[]⟩, .int .i64 0] [(0, 1), (1, 1)] := BdT.of Tryz.underlying266 Ja Ja
instance : MxT Tryz.prog := ⟨by kernel_rfl⟩
instance : FnT Tryz.prog 10 := FnT.of Tryz.func10 Ja Ja
instance : FnT Tryz.prog 14 := FnT.of Tryz.func14 Ja Ja
instance : FnT Tryz.prog 15 := FnT.of Tryz.func15 Ja Ja
instance : FnT Tryz.prog 17 := FnT.of Tryz.func17 Ja Ja
instance : FnT Tryz.prog 19 := FnT.of Tryz.func19 Ja Ja
instance : FnT Tryz.prog 23 := FnT.of Tryz.func23 Ja Ja
instance : FnT Tryz.prog 24 := FnT.of Tryz.func24 Ja Ja
instance : FnT Tryz.prog 25 := FnT.of Tryz.func25 Ja Ja
instance : FnT Tryz.prog 28 := FnT.of Tryz.func28 Ja Ja
instance : FnT Tryz.prog 29 := FnT.of Tryz.func29 Ja Ja
instance : FnT Tryz.prog 30 := FnT.of Tryz.func30 Ja Ja
instance : FnT Tryz.prog 31 := FnT.of Tryz.func31 Ja Ja
instance : FnT Tryz.prog 32 := FnT.of Tryz.func32 Ja Ja
instance : FnT Tryz.prog 33 := FnT.of Tryz.func33 Ja Ja
instance : FnT Tryz.prog 34 := FnT.of Tryz.func34 Ja Ja
instance : FnT Tryz.prog 35 := FnT.of Tryz.func35 Ja Ja
instance : FnT Tryz.prog 36 := FnT.of Tryz.func36 Ja Ja
instance : FnT Tryz.prog 41 := FnT.of Tryz.func41 Ja Ja
instance : FnT Tryz.prog 42 := FnT.of Tryz.func42 Ja Ja
instance : FnT Tryz.prog 43 := FnT.of Tryz.func43 Ja Ja
instance : FnT Tryz.prog 44 := FnT.of Tryz.func44 Ja Ja
instance : FnT Tryz.prog 45 := FnT.of Tryz.func45 Ja Ja
instance : FnT Tryz.prog 46 := FnT.of Tryz.func46 Ja Ja
instance : FnT Tryz.prog 47 := FnT.of Tryz.func47 Ja Ja
instance : FnT Tryz.prog 48 := FnT.of Tryz.func48 Ja Ja
instance : FnT Tryz.prog 49 := FnT.of Tryz.func49 Ja Ja
instance : FnT Tryz.prog 50 := FnT.of Tryz.func50 Ja Ja
instance : FnT Tryz.prog 52 := FnT.of Tryz.func52 Ja Ja
instance : FnT Tryz.prog 53 := FnT.of Tryz.func53 Ja Ja
instance : FnT Tryz.prog 54 := FnT.of Tryz.func54 Ja Ja
instance : FnT Tryz.prog 55 := FnT.of Tryz.func55 Ja Ja
instance : FnT Tryz.prog 57 := FnT.of Tryz.func57 Ja Ja
instance : FnT Tryz.prog 58 := FnT.of Tryz.func58 Ja Ja
instance : FnT Tryz.prog 59 := FnT.of Tryz.func59 Ja Ja
instance : FnT Tryz.prog 60 := FnT.of Tryz.func60 Ja Ja
instance : FnT Tryz.prog 61 := FnT.of Tryz.func61 Ja Ja
instance : FnT Tryz.prog 63 := FnT.of Tryz.func63 Ja Ja
instance : FnT Tryz.prog 64 := FnT.of Tryz.func64 Ja Ja
instance : FnT Tryz.prog 65 := FnT.of Tryz.func65 Ja Ja
instance : FnT Tryz.prog 66 := FnT.of Tryz.func66 Ja Ja
instance : FnT Tryz.prog 67 := FnT.of Tryz.func67 Ja Ja
instance : FnT Tryz.prog 68 := FnT.of Tryz.func68 Ja Ja
instance : FnT Tryz.prog 69 := FnT.of Tryz.func69 Ja Ja
instance : FnT Tryz.prog 74 := FnT.of Tryz.func74 Ja Ja
instance : FnT Tryz.prog 75 := FnT.of Tryz.func75 Ja Ja
instance : FnT Tryz.prog 76 := FnT.of Tryz.func76 Ja Ja
instance : FnT Tryz.prog 77 := FnT.of Tryz.func77 Ja Ja
instance : FnT Tryz.prog 78 := FnT.of Tryz.func78 Ja Ja
instance : FnT Tryz.prog 79 := FnT.of Tryz.func79 Ja Ja
instance : FnT Tryz.prog 80 := FnT.of Tryz.func80 Ja Ja
instance : FnT Tryz.prog 81 := FnT.of Tryz.func81 Ja Ja
instance : FnT Tryz.prog 82 := FnT.of Tryz.func82 Ja Ja
instance : FnT Tryz.prog 83 := FnT.of Tryz.func83 Ja Ja
instance : FnT Tryz.prog 84 := FnT.of Tryz.func84 Ja Ja
instance : FnT Tryz.prog 85 := FnT.of Tryz.func85 Ja Ja
instance : FnT Tryz.prog 86 := FnT.of Tryz.func86 Ja Ja
instance : FnT Tryz.prog 87 := FnT.of Tryz.func87 Ja Ja
instance : FnT Tryz.prog 88 := FnT.of Tryz.func88 Ja Ja
instance : FnT Tryz.prog 91 := FnT.of Tryz.func91 Ja Ja
instance : FnT Tryz.prog 92 := FnT.of Tryz.func92 Ja Ja
instance : FnT Tryz.prog 99 := FnT.of Tryz.func99 Ja Ja
instance : FnT Tryz.prog 100 := FnT.of Tryz.func100 Ja Ja
instance : FnT Tryz.prog 101 := FnT.of Tryz.func101 Ja Ja
instance : FnT Tryz.prog 102 := FnT.of Tryz.func102 Ja Ja
instance : FnT Tryz.prog 103 := FnT.of Tryz.func103 Ja Ja
instance : FnT Tryz.prog 104 := FnT.of Tryz.func104 Ja Ja
instance : FnT Tryz.prog 105 := FnT.of Tryz.func105 Ja Ja
instance : FnT Tryz.prog 106 := FnT.of Tryz.func106 Ja Ja
instance : FnT Tryz.prog 107 := FnT.of Tryz.func107 Ja Ja
instance : FnT Tryz.prog 108 := FnT.of Tryz.func108 Ja Ja
instance : FnT Tryz.prog 110 := FnT.of Tryz.func110 Ja Ja
instance : FnT Tryz.prog 111 := FnT.of Tryz.func111 Ja Ja
instance : FnT Tryz.prog 112 := FnT.of Tryz.func112 Ja Ja
instance : FnT Tryz.prog 113 := FnT.of Tryz.func113 Ja Ja
instance : FnT Tryz.prog 114 := FnT.of Tryz.func114 Ja Ja
instance : FnT Tryz.prog 115 := FnT.of Tryz.func115 Ja Ja
instance : FnT Tryz.prog 116 := FnT.of Tryz.func116 Ja Ja
instance : FnT Tryz.prog 117 := FnT.of Tryz.func117 Ja Ja
instance : FnT Tryz.prog 118 := FnT.of Tryz.func118 Ja Ja
instance : FnT Tryz.prog 119 := FnT.of Tryz.func119 Ja Ja
instance : FnT Tryz.prog 120 := FnT.of Tryz.func120 Ja Ja
instance : FnT Tryz.prog 121 := FnT.of Tryz.func121 Ja Ja
instance : FnT Tryz.prog 122 := FnT.of Tryz.func122 Ja Ja
instance : FnT Tryz.prog 123 := FnT.of Tryz.func123 Ja Ja
instance : FnT Tryz.prog 124 := FnT.of Tryz.func124 Ja Ja
instance : FnT Tryz.prog 128 := FnT.of Tryz.func128 Ja Ja
instance : FnT Tryz.prog 129 := FnT.of Tryz.func129 Ja Ja
instance : FnT Tryz.prog 130 := FnT.of Tryz.func130 Ja Ja
instance : FnT Tryz.prog 131 := FnT.of Tryz.func131 Ja Ja
instance : FnT Tryz.prog 132 := FnT.of Tryz.func132 Ja Ja
instance : FnT Tryz.prog 133 := FnT.of Tryz.func133 Ja Ja
instance : FnT Tryz.prog 134 := FnT.of Tryz.func134 Ja Ja
instance : FnT Tryz.prog 135 := FnT.of Tryz.func135 Ja Ja
instance : FnT Tryz.prog 136 := FnT.of Tryz.func136 Ja Ja
instance : FnT Tryz.prog 137 := FnT.of Tryz.func137 Ja Ja
instance : FnT Tryz.prog 138 := FnT.of Tryz.func138 Ja Ja
instance : FnT Tryz.prog 149 := FnT.of Tryz.func149 Ja Ja
instance : FnT Tryz.prog 150 := FnT.of Tryz.func150 Ja Ja
instance : FnT Tryz.prog 151 := FnT.of Tryz.func151 Ja Ja
instance : FnT Tryz.prog 152 := FnT.of Tryz.func152 Ja Ja
instance : FnT Tryz.prog 153 := FnT.of Tryz.func153 Ja Ja
instance : FnT Tryz.prog 157 := FnT.of Tryz.func157 Ja Ja
instance : FnT Tryz.prog 158 := FnT.of Tryz.func158 Ja Ja
instance : FnT Tryz.prog 159 := FnT.of Tryz.func159 Ja Ja
instance : FnT Tryz.prog 160 := FnT.of Tryz.func160 Ja Ja
instance : FnT Tryz.prog 161 := FnT.of Tryz.func161 Ja Ja
instance : FnT Tryz.prog 162 := FnT.of Tryz.func162 Ja Ja
instance : FnT Tryz.prog 163 := FnT.of Tryz.func163 Ja Ja
instance : FnT Tryz.prog 164 := FnT.of Tryz.func164 Ja Ja
instance : FnT Tryz.prog 166 := FnT.of Tryz.func166 Ja Ja
instance : FnT Tryz.prog 171 := FnT.of Tryz.func171 Ja Ja
instance : FnT Tryz.prog 172 := FnT.of Tryz.func172 Ja Ja
instance : FnT Tryz.prog 173 := FnT.of Tryz.func173 Ja Ja
instance : FnT Tryz.prog 174 := FnT.of Tryz.func174 Ja Ja
instance : FnT Tryz.prog 175 := FnT.of Tryz.func175 Ja Ja
instance : FnT Tryz.prog 176 := FnT.of Tryz.func176 Ja Ja
instance : FnT Tryz.prog 177 := FnT.of Tryz.func177 Ja Ja
instance : FnT Tryz.prog 178 := FnT.of Tryz.func178 Ja Ja
instance : FnT Tryz.prog 179 := FnT.of Tryz.func179 Ja Ja
instance : FnT Tryz.prog 180 := FnT.of Tryz.func180 Ja Ja
instance : FnT Tryz.prog 181 := FnT.of Tryz.func181 Ja Ja
instance : FnT Tryz.prog 182 := FnT.of Tryz.func182 Ja Ja
instance : FnT Tryz.prog 183 := FnT.of Tryz.func183 Ja Ja
instance : FnT Tryz.prog 185 := FnT.of Tryz.func185 Ja Ja
instance : FnT Tryz.prog 186 := FnT.of Tryz.func186 Ja Ja
instance : FnT Tryz.prog 187 := FnT.of Tryz.func187 Ja Ja
instance : FnT Tryz.prog 190 := FnT.of Tryz.func190 Ja Ja
instance : FnT Tryz.prog 203 := FnT.of Tryz.func203 Ja Ja
instance : FnT Tryz.prog 205 := FnT.of Tryz.func205 Ja Ja
instance : FnT Tryz.prog 206 := FnT.of Tryz.func206 Ja Ja
instance : FnT Tryz.prog 209 := FnT.of Tryz.func209 Ja Ja
instance : FnT Tryz.prog 210 := FnT.of Tryz.func210 Ja Ja
instance : FnT Tryz.prog 211 := FnT.of Tryz.func211 Ja Ja
instance : FnT Tryz.prog 212 := FnT.of Tryz.func212 Ja Ja
instance : FnT Tryz.prog 214 := FnT.of Tryz.func214 Ja Ja
instance : FnT Tryz.prog 215 := FnT.of Tryz.func215 Ja Ja
instance : FnT Tryz.prog 216 := FnT.of Tryz.func216 Ja Ja
instance : FnT Tryz.prog 217 := FnT.of Tryz.func217 Ja Ja
instance : FnT Tryz.prog 218 := FnT.of Tryz.func218 Ja Ja
instance : FnT Tryz.prog 219 := FnT.of Tryz.func219 Ja Ja
instance : FnT Tryz.prog 220 := FnT.of Tryz.func220 Ja Ja
instance : FnT Tryz.prog 251 := FnT.of Tryz.func251 Ja Ja
end Go.Sy
namespace Go.Sy
open Go Go.Proofs
def letter (c : UInt8) : Bool := (97 ≤ c.toNat && c.toNat ≤ 122) || (65 ≤ c.toNat && c.toNat ≤ 90) || c.toNat == 95
def nameC (c : UInt8) : Bool := letter c || (48 ≤ c.toNat && c.toNat ≤ 57)
def isName (s : List UInt8) : Bool := !s.isEmpty && s.length ≤ 20 && letter (s.headD 0) && s.all nameC
theorem isName_no {s : List UInt8} {j : Nat} (h : j < s.length) (hl : nameC s[j] = false) : isName s = false := by
  have : s.all nameC = false := by
    rw [List.all_eq_false]; exact ⟨s[j], List.getElem_mem h, by simp [hl]⟩
  simp [isName, this]
theorem isName_yes {s : List UInt8} (h0 : s ≠ []) (h1 : s.length ≤ 20) (h2 : letter (s.headD 0) = true) (h : ∀ j (hj : j < s.length), nameC s[j] = true) : isName s = true := by
  have : s.all nameC = true := by
    rw [List.all_eq_true]; intro c hc
    obtain ⟨j, hj, rfl⟩ := List.getElem_of_mem hc
    exact h j hj
  unfold isName
  rw [this, h2]
  simp [h0, h1]
attribute [local irreducible] AC AT AO AK AH ACalls Sub Res.cells Res.obj Res.nix Res.own Exit.then Exit.inBlock bodyPost Code.wp Code.wpIn WL Next Post Kont
section
variable {W0 : World} {L : List Res} {F : List Fact} {R : Value → List Res → List Fact → Prop}
set_option maxRecDepth 100000
theorem src_Letter_c (c : UInt8) (hT : letter c = true → R (.bool true) L F) (hF : letter c = false → R (.bool false) L F) : ACalls Tryz.prog W0 115 #[.int .u8 c.toNat] L F R := by
  refine Gg Tryz.func115 HZ Tryz.ntmps115 HZ ?_
  refine qs 8 ?_
  refine Ga (GY HZ HZ HZ (fun c4 => ?_) (fun c4 => ?_))
  ·refine qs 2 ?_
   refine Gc HZ HZ (HG HZ HZ HZ (fun c7 => ?_) (fun c7 => ?_))
   ·refine qs 17 ?_
    first | refine Gb Tryz.results115 HZ (Gf _ _) (hT ?_) | refine Gb Tryz.results115 HZ (Gf _ _) (hF ?_)
    simp [letter]; omega
   refine qs 3 ?_
   refine Gc HZ HZ (GY HZ HZ HZ (fun c11 => ?_) (fun c11 => ?_))
   ·refine qs 2 ?_
    refine Gc HZ HZ (HG HZ HZ HZ (fun c14 => ?_) (fun c14 => ?_))
    ·refine qs 10 ?_
     first | refine Gb Tryz.results115 HZ (Gf _ _) (hT ?_) | refine Gb Tryz.results115 HZ (Gf _ _) (hF ?_)
     simp [letter]; omega
    refine qs 4 ?_
    refine Gc HZ HZ (Gr HZ HZ HZ (fun c19 => ?_) (fun c19 => ?_))
    ·refine qs 5 ?_
     first | refine Gb Tryz.results115 HZ (Gf _ _) (hT ?_) | refine Gb Tryz.results115 HZ (Gf _ _) (hF ?_)
     simp [letter]; omega
    refine qs 5 ?_
    first | refine Gb Tryz.results115 HZ (Gf _ _) (hT ?_) | refine Gb Tryz.results115 HZ (Gf _ _) (hF ?_)
    simp [letter]; omega
   refine qs 7 ?_
   refine Gc HZ HZ (Gr HZ HZ HZ (fun c19 => ?_) (fun c19 => ?_))
   ·refine qs 5 ?_
    first | refine Gb Tryz.results115 HZ (Gf _ _) (hT ?_) | refine Gb Tryz.results115 HZ (Gf _ _) (hF ?_)
    simp [letter]; omega
   refine qs 5 ?_
   first | refine Gb Tryz.results115 HZ (Gf _ _) (hT ?_) | refine Gb Tryz.results115 HZ (Gf _ _) (hF ?_)
   simp [letter]; omega
  refine qs 6 ?_
  refine Gc HZ HZ (GY HZ HZ HZ (fun c11 => ?_) (fun c11 => ?_))
  ·refine qs 2 ?_
   refine Gc HZ HZ (HG HZ HZ HZ (fun c14 => ?_) (fun c14 => ?_))
   ·refine qs 10 ?_
    first | refine Gb Tryz.results115 HZ (Gf _ _) (hT ?_) | refine Gb Tryz.results115 HZ (Gf _ _) (hF ?_)
    simp [letter]; omega
   refine qs 4 ?_
   refine Gc HZ HZ (Gr HZ HZ HZ (fun c19 => ?_) (fun c19 => ?_))
   ·refine qs 5 ?_
    first | refine Gb Tryz.results115 HZ (Gf _ _) (hT ?_) | refine Gb Tryz.results115 HZ (Gf _ _) (hF ?_)
    simp [letter]; omega
   refine qs 5 ?_
   first | refine Gb Tryz.results115 HZ (Gf _ _) (hT ?_) | refine Gb Tryz.results115 HZ (Gf _ _) (hF ?_)
   simp [letter]; omega
  refine qs 7 ?_
  refine Gc HZ HZ (Gr HZ HZ HZ (fun c19 => ?_) (fun c19 => ?_))
  ·refine qs 5 ?_
   first | refine Gb Tryz.results115 HZ (Gf _ _) (hT ?_) | refine Gb Tryz.results115 HZ (Gf _ _) (hF ?_)
   simp [letter]; omega
  refine qs 5 ?_
  first | refine Gb Tryz.results115 HZ (Gf _ _) (hT ?_) | refine Gb Tryz.results115 HZ (Gf _ _) (hF ?_)
  simp [letter]; omega
theorem src_Name_c (s : List UInt8) (hT : isName s = true → R (.bool true) L F) (hF : isName s = false → R (.bool false) L F) : ACalls Tryz.prog W0 60 #[S s] L F R := by
  refine Gg Tryz.func60 HZ Tryz.ntmps60 HZ ?_
  refine qs 9 ?_
  refine Ga (Hi HZ HZ HZ (fun c5 => ?_) (fun c5 => ?_))
  ·refine qs 21 ?_
   first | refine Gb Tryz.results60 HZ (Gf _ _) (hT ?_) | refine Gb Tryz.results60 HZ (Gf _ _) (hF ?_)
   first | (simp [isName, *]; done) | (unfold isName; simp; omega) | exact isName_yes c5 Jb (by cases s <;> simp_all) (fun j hj => hok j hj Jb) | exact isName_no (j := k) Jb (by simp only [nameC, Bool.or_eq_false_iff, Bool.and_eq_false_iff, decide_eq_false_iff_not]; exact ⟨‹_›, by omega⟩) | (cases s <;> simp_all [isName])
  refine qs 3 ?_
  refine Gc HZ HZ (Hv HZ HZ HZ (fun c9 => ?_) (fun c9 => ?_))
  ·refine qs 17 ?_
   first | refine Gb Tryz.results60 HZ (Gf _ _) (hT ?_) | refine Gb Tryz.results60 HZ (Gf _ _) (hF ?_)
   first | (simp [isName, *]; done) | (unfold isName; simp; omega) | exact isName_yes c5 Jb (by cases s <;> simp_all) (fun j hj => hok j hj Jb) | exact isName_no (j := k) Jb (by simp only [nameC, Bool.or_eq_false_iff, Bool.and_eq_false_iff, decide_eq_false_iff_not]; exact ⟨‹_›, by omega⟩) | (cases s <;> simp_all [isName])
  refine qs 3 ?_
  have h0 : 0 < s.length := List.length_pos_iff.2 c5
  refine Gc HZ HZ (HF HZ HZ HZ HZ h0 ?_)
  refine Gc HZ HZ (Ge HZ HZ (src_Letter_c _ (fun c14 => ?_) (fun c14 => ?_)))
  ·refine qs 16 ?_
   refine GB (fun k => k ≤ s.length ∧ ∀ j (hj : j < s.length), j < k → nameC s[j] = true) (fun k => [(0, S s), (18, .int .i64 s.length), (19, .int .i64 (k : Int))]) (fun _ => L) (fun _ => F) (fun k => s.length - k) 0 ⟨by omega, by omega⟩ srA (Gf _ _) ?_
   rintro k ⟨hk, hok⟩
   refine qs 2 ?_
   refine Ga (Gw HZ HZ HZ (fun c20 => ?_) (fun c20 => ?_))
   ·refine qs 18 ?_
    refine Ga (HF HZ HZ HZ HZ Jb ?_)
    refine Ga (Ge HZ HZ (src_Letter_c _ (fun c25 => ?_) (fun c25 => ?_)))
    ·refine qs 23 ?_
     refine Gk (k + 1) ⟨by omega, ?_⟩ Jb srA (Gf _ _)
     intro j hj hjk
     rcases Nat.lt_succ_iff_lt_or_eq.1 hjk with h | rfl
     · exact hok j hj h
     simp only [nameC, Bool.or_eq_true, Bool.and_eq_true, decide_eq_true_eq]
     first | exact .inl ‹_› | (right; omega)
    refine qs 4 ?_
    refine Gc HZ HZ (HF HZ HZ HZ HZ Jb (Gc HZ HZ (Gw HZ HZ HZ (fun c31 => ?_) (fun c31 => ?_))))
    ·refine qs 21 ?_
     first | refine Gb Tryz.results60 HZ (Gf _ _) (hT ?_) | refine Gb Tryz.results60 HZ (Gf _ _) (hF ?_)
     first | (simp [isName, *]; done) | (unfold isName; simp; omega) | exact isName_yes c5 Jb (by cases s <;> simp_all) (fun j hj => hok j hj Jb) | exact isName_no (j := k) Jb (by simp only [nameC, Bool.or_eq_false_iff, Bool.and_eq_false_iff, decide_eq_false_iff_not]; exact ⟨‹_›, by omega⟩) | (cases s <;> simp_all [isName])
    refine qs 3 ?_
    refine Gc HZ HZ (HF HZ HZ HZ HZ Jb (Gc HZ HZ (Hv HZ HZ HZ (fun c36 => ?_) (fun c36 => ?_))))
    ·refine qs 16 ?_
     first | refine Gb Tryz.results60 HZ (Gf _ _) (hT ?_) | refine Gb Tryz.results60 HZ (Gf _ _) (hF ?_)
     first | (simp [isName, *]; done) | (unfold isName; simp; omega) | exact isName_yes c5 Jb (by cases s <;> simp_all) (fun j hj => hok j hj Jb) | exact isName_no (j := k) Jb (by simp only [nameC, Bool.or_eq_false_iff, Bool.and_eq_false_iff, decide_eq_false_iff_not]; exact ⟨‹_›, by omega⟩) | (cases s <;> simp_all [isName])
    refine qs 12 ?_
    refine Gk (k + 1) ⟨by omega, ?_⟩ Jb srA (Gf _ _)
    intro j hj hjk
    rcases Nat.lt_succ_iff_lt_or_eq.1 hjk with h | rfl
    · exact hok j hj h
    simp only [nameC, Bool.or_eq_true, Bool.and_eq_true, decide_eq_true_eq]
    first | exact .inl ‹_› | (right; omega)
   refine qs 15 ?_
   first | refine Gb Tryz.results60 HZ (Gf _ _) (hT ?_) | refine Gb Tryz.results60 HZ (Gf _ _) (hF ?_)
   first | (simp [isName, *]; done) | (unfold isName; simp; omega) | exact isName_yes c5 Jb (by cases s <;> simp_all) (fun j hj => hok j hj Jb) | exact isName_no (j := k) Jb (by simp only [nameC, Bool.or_eq_false_iff, Bool.and_eq_false_iff, decide_eq_false_iff_not]; exact ⟨‹_›, by omega⟩) | (cases s <;> simp_all [isName])
  refine qs 12 ?_
  first | refine Gb Tryz.results60 HZ (Gf _ _) (hT ?_) | refine Gb Tryz.results60 HZ (Gf _ _) (hF ?_)
  first | (simp [isName, *]; done) | (unfold isName; simp; omega) | exact isName_yes c5 Jb (by cases s <;> simp_all) (fun j hj => hok j hj Jb) | exact isName_no (j := k) Jb (by simp only [nameC, Bool.or_eq_false_iff, Bool.and_eq_false_iff, decide_eq_false_iff_not]; exact ⟨‹_›, by omega⟩) | (cases s <;> simp_all [isName])
end
end Go.Sy
namespace Go.Sy
abbrev HP := @src_Name_c
end Go.Sy
namespace Go.Sy
open Go Go.Proofs
structure Ty where
  kind : Int
  name : List UInt8
  n : Int
  words : List (List UInt8)
  kids : List Int
deriving DecidableEq
abbrev eS (s : List UInt8) : List D := [.val (S s)]
abbrev eI (i : Int) : List D := [.val (.int .i64 i)]
abbrev eTy (t : Ty) : List D := [.val (.int .i64 t.kind), .val (S t.name), .val (.int .i64 t.n), .slc 1 (t.words.map eS), .slc 1 (t.kids.map eI)]
abbrev vTy (t : Ty) (a1 : Option Addr) (k1 c1 : Nat) (a2 : Option Addr) (k2 c2 : Nat) : Value := .agg #[.int .i64 t.kind, S t.name, .int .i64 t.n, .slice a1 k1 c1, .slice a2 k2 c2]
abbrev fW (t : Ty) (a1 : Option Addr) (k1 c1 : Nat) : Fact := .slc (.slice a1 k1 c1) 1 (t.words.map eS)
abbrev fK (t : Ty) (a2 : Option Addr) (k2 c2 : Nat) : Fact := .slc (.slice a2 k2 c2) 1 (t.kids.map eI)
theorem take_step {α : Type} {l m : List α} {k : Nat} (h : l.take k = m.take k) (hl : k < l.length) (hm : k < m.length) (he : l[k] = m[k]) : l.take (k + 1) = m.take (k + 1) := by
  rw [List.take_succ_eq_append_getElem hl, List.take_succ_eq_append_getElem hm, h, he]
theorem ne_at {α : Type} {l m : List α} {k : Nat} (hl : k < l.length) (hm : k < m.length) (he : l[k] ≠ m[k]) : l ≠ m := fun e => he (by subst e; rfl)
theorem all_of_take {α : Type} {l m : List α} {k : Nat} (h : l.take k = m.take k) (hl : l.length ≤ k) (hm : m.length ≤ k) : l = m := by
  rwa [List.take_of_length_le hl, List.take_of_length_le hm] at h
theorem ty_ext {t u : Ty} (h1 : t.kind = u.kind) (h2 : t.name = u.name) (h3 : t.n = u.n) (h4 : t.words = u.words) (h5 : t.kids = u.kids) : t = u := by
  cases t; cases u; simp_all
attribute [local irreducible] AC AT AO AK AH ACalls Sub Res.cells Res.obj Res.nix Res.own Exit.then Exit.inBlock bodyPost Code.wp Code.wpIn WL Next Post Kont
section
variable {W0 : World} {L : List Res} {F : List Fact} {R : Value → List Res → List Fact → Prop}
set_option maxRecDepth 100000
theorem ref_Like_c (t u : Ty) {a1 a2 a3 a4 : Option Addr} {k1 c1 k2 c2 k3 c3 k4 c4 : Nat} (hT : t = u → R (.bool true) L F) (hF : t ≠ u → R (.bool false) L F)
    (m1 : fW t a1 k1 c1 ∈ F) (m2 : fK t a2 k2 c2 ∈ F) (m3 : fW u a3 k3 c3 ∈ F) (m4 : fK u a4 k4 c4 ∈ F) :
    ACalls Tryz.prog W0 14 #[vTy t a1 k1 c1 a2 k2 c2, vTy u a3 k3 c3 a4 k4 c4] L F R := by
  refine Gg Tryz.func14 HZ Tryz.ntmps14 HZ ?_
  refine qs 2 ?_
  refine Ga (GL HZ HZ (fun b2 => (Ga (GL HZ HZ (fun b3 => ?_)))))
  refine qs 10 ?_
  refine Ga (GG HZ HZ HZ (fun c11 => ?_) (fun c11 => ?_))
  ·refine qs 42 ?_
   first | refine Gb Tryz.results14 HZ subA (hT ?_) | refine Gb Tryz.results14 HZ subA (hF ?_)
   first
   | (intro e; subst e; exact absurd rfl ‹_›)
   | exact fun e => ne_at hkl hkm c60 (by rw [e])
   | exact fun e => ne_at hkl hkm c78 (by rw [e])
   | exact fun e => absurd (congrArg Ty.kind e) ‹_›
   | exact fun e => absurd (congrArg Ty.name e) ‹_›
   | exact fun e => absurd (congrArg Ty.n e) ‹_›
   | exact fun e => c33 (by rw [e])
   | exact fun e => c42 (by rw [e])
   | exact ty_ext c11 c17 c24 (all_of_take hok Jb Jb) (all_of_take hoq Jb Jb)
  refine qs 5 ?_
  refine Gc HZ HZ (AO.neqS HZ HZ HZ (fun c17 => ?_) (fun c17 => ?_))
  ·refine qs 36 ?_
   first | refine Gb Tryz.results14 HZ subA (hT ?_) | refine Gb Tryz.results14 HZ subA (hF ?_)
   first
   | (intro e; subst e; exact absurd rfl ‹_›)
   | exact fun e => ne_at hkl hkm c60 (by rw [e])
   | exact fun e => ne_at hkl hkm c78 (by rw [e])
   | exact fun e => absurd (congrArg Ty.kind e) ‹_›
   | exact fun e => absurd (congrArg Ty.name e) ‹_›
   | exact fun e => absurd (congrArg Ty.n e) ‹_›
   | exact fun e => c33 (by rw [e])
   | exact fun e => c42 (by rw [e])
   | exact ty_ext c11 c17 c24 (all_of_take hok Jb Jb) (all_of_take hoq Jb Jb)
  refine qs 6 ?_
  refine Gc HZ HZ (GG HZ HZ HZ (fun c24 => ?_) (fun c24 => ?_))
  ·refine qs 29 ?_
   first | refine Gb Tryz.results14 HZ subA (hT ?_) | refine Gb Tryz.results14 HZ subA (hF ?_)
   first
   | (intro e; subst e; exact absurd rfl ‹_›)
   | exact fun e => ne_at hkl hkm c60 (by rw [e])
   | exact fun e => ne_at hkl hkm c78 (by rw [e])
   | exact fun e => absurd (congrArg Ty.kind e) ‹_›
   | exact fun e => absurd (congrArg Ty.name e) ‹_›
   | exact fun e => absurd (congrArg Ty.n e) ‹_›
   | exact fun e => c33 (by rw [e])
   | exact fun e => c42 (by rw [e])
   | exact ty_ext c11 c17 c24 (all_of_take hok Jb Jb) (all_of_take hoq Jb Jb)
  refine qs 4 ?_
  refine Gc HZ HZ (Gt HZ HZ (fun hl1_22 => ?_) (hm := m1))
  refine qs 2 ?_
  refine Gc HZ HZ (Gt HZ HZ (fun hl1_25 => ?_) (hm := m3))
  refine Gc HZ HZ (GG HZ HZ HZ (fun c33 => ?_) (fun c33 => ?_))
  ·refine qs 20 ?_
   first | refine Gb Tryz.results14 HZ subA (hT ?_) | refine Gb Tryz.results14 HZ subA (hF ?_)
   first
   | (intro e; subst e; exact absurd rfl ‹_›)
   | exact fun e => ne_at hkl hkm c60 (by rw [e])
   | exact fun e => ne_at hkl hkm c78 (by rw [e])
   | exact fun e => absurd (congrArg Ty.kind e) ‹_›
   | exact fun e => absurd (congrArg Ty.name e) ‹_›
   | exact fun e => absurd (congrArg Ty.n e) ‹_›
   | exact fun e => c33 (by rw [e])
   | exact fun e => c42 (by rw [e])
   | exact ty_ext c11 c17 c24 (all_of_take hok Jb Jb) (all_of_take hoq Jb Jb)
  refine qs 4 ?_
  refine Gc HZ HZ (Gt HZ HZ (fun hl1_31 => ?_) (hm := m2))
  refine qs 2 ?_
  refine Gc HZ HZ (Gt HZ HZ (fun hl1_34 => ?_) (hm := m4))
  refine Gc HZ HZ (GG HZ HZ HZ (fun c42 => ?_) (fun c42 => ?_))
  ·refine qs 11 ?_
   first | refine Gb Tryz.results14 HZ subA (hT ?_) | refine Gb Tryz.results14 HZ subA (hF ?_)
   first
   | (intro e; subst e; exact absurd rfl ‹_›)
   | exact fun e => ne_at hkl hkm c60 (by rw [e])
   | exact fun e => ne_at hkl hkm c78 (by rw [e])
   | exact fun e => absurd (congrArg Ty.kind e) ‹_›
   | exact fun e => absurd (congrArg Ty.name e) ‹_›
   | exact fun e => absurd (congrArg Ty.n e) ‹_›
   | exact fun e => c33 (by rw [e])
   | exact fun e => c42 (by rw [e])
   | exact ty_ext c11 c17 c24 (all_of_take hok Jb Jb) (all_of_take hoq Jb Jb)
  refine qs 11 ?_
  refine Ga (Gt HZ HZ (fun hl3_2 => ?_) (hm := m1))
  refine qs 4 ?_
  refine GB (fun k => k ≤ t.words.length ∧ t.words.take k = u.words.take k) (fun k => [(2, .pointer (some ⟨b2, 0, none⟩)), (3, .pointer (some ⟨b3, 0, none⟩)), (46, .int .i64 t.words.length), (47, .int .i64 (k : Int))]) (fun _ => _) (fun _ => F) (fun k => t.words.length - k) 0 ⟨by omega, by simp⟩ srA (Gf _ _) ?_
  rintro k ⟨hk, hok⟩
  refine qs 2 ?_
  refine Ga (Gw HZ HZ HZ (fun c48 => ?_) (fun c48 => ?_))
  ·refine qs 15 ?_
   refine GP (fun _ => false) [(b2, _, _), (b3, _, _)] bxA HZ (fun hx hX => ?_)
   have hkl : k < t.words.length := by omega
   have hkm : k < u.words.length := by omega
   have hkk1 := (Gu (hX _ m1)).1
   have hkk3 := (Gu (hX _ m3)).1
   obtain ⟨p1, o1, rfl, at1⟩ := GA (hX _ m1) hkl
   obtain ⟨p2, o2, rfl, at2⟩ := GA (hX _ m3) hkm
   obtain ⟨v1, hv1, hc1⟩ := at1 0 _ rfl
   obtain ⟨v2, hv2, hc2⟩ := at2 0 _ rfl
   cases hc1
   cases hc2
   refine qt [0, 1, 2, 3, 4, 5, 6, 7, 8, 9] ?_
   refine Hf (i := 10) HZ (Y.neqS HZ HZ) Ja HZ HZ (fun c60 => ?_) (fun c60 => ?_)
   ·replace c60 := ne_of_nbeq c60
    refine Gq Ja ?_
    refine qs 13 ?_
    first | refine Gb Tryz.results14 HZ subA (hT ?_) | refine Gb Tryz.results14 HZ subA (hF ?_)
    first
    | (intro e; subst e; exact absurd rfl ‹_›)
    | exact fun e => ne_at hkl hkm c60 (by rw [e])
    | exact fun e => ne_at hkl hkm c78 (by rw [e])
    | exact fun e => absurd (congrArg Ty.kind e) ‹_›
    | exact fun e => absurd (congrArg Ty.name e) ‹_›
    | exact fun e => absurd (congrArg Ty.n e) ‹_›
    | exact fun e => c33 (by rw [e])
    | exact fun e => c42 (by rw [e])
    | exact ty_ext c11 c17 c24 (all_of_take hok Jb Jb) (all_of_take hoq Jb Jb)
   replace c60 := eq_of_nbeqF c60
   refine Gq Ja ?_
   refine qs 9 ?_
   refine Gk (k + 1) ⟨by omega, take_step hok hkl hkm c60⟩ Jb srA subF
  refine qs 14 ?_
  refine Ga (Gt HZ HZ (fun hl9_2 => ?_) (hm := m2))
  refine qs 4 ?_
  refine GB (fun k => k ≤ t.kids.length ∧ t.kids.take k = u.kids.take k) (fun k => [(2, .pointer (some ⟨b2, 0, none⟩)), (3, .pointer (some ⟨b3, 0, none⟩)), (64, .int .i64 t.kids.length), (65, .int .i64 (k : Int))]) (fun _ => _) (fun _ => F) (fun k => t.kids.length - k) 0 ⟨by omega, by simp⟩ srA (Gf _ _) ?_
  rintro q ⟨hq, hoq⟩
  refine qs 2 ?_
  refine Ga (Gw HZ HZ HZ (fun c66 => ?_) (fun c66 => ?_))
  ·refine qs 15 ?_
   refine GP (fun _ => false) [(b2, _, _), (b3, _, _)] bxA HZ (fun hx hX => ?_)
   have hkl : q < t.kids.length := by omega
   have hkm : q < u.kids.length := by omega
   have hkk1 := (Gu (hX _ m2)).1
   have hkk3 := (Gu (hX _ m4)).1
   obtain ⟨p1, o1, rfl, at1⟩ := GA (hX _ m2) hkl
   obtain ⟨p2, o2, rfl, at2⟩ := GA (hX _ m4) hkm
   obtain ⟨v1, hv1, hc1⟩ := at1 0 _ rfl
   obtain ⟨v2, hv2, hc2⟩ := at2 0 _ rfl
   cases hc1
   cases hc2
   refine qt [0, 1, 2, 3, 4, 5, 6, 7, 8, 9] ?_
   refine Hf (i := 10) HZ (Y.neq HZ HZ) Ja HZ HZ (fun c78 => ?_) (fun c78 => ?_)
   ·replace c78 := ne_of_bne c78
    refine Gq Ja ?_
    refine qs 13 ?_
    first | refine Gb Tryz.results14 HZ subA (hT ?_) | refine Gb Tryz.results14 HZ subA (hF ?_)
    first
    | (intro e; subst e; exact absurd rfl ‹_›)
    | exact fun e => ne_at hkl hkm c60 (by rw [e])
    | exact fun e => ne_at hkl hkm c78 (by rw [e])
    | exact fun e => absurd (congrArg Ty.kind e) ‹_›
    | exact fun e => absurd (congrArg Ty.name e) ‹_›
    | exact fun e => absurd (congrArg Ty.n e) ‹_›
    | exact fun e => c33 (by rw [e])
    | exact fun e => c42 (by rw [e])
    | exact ty_ext c11 c17 c24 (all_of_take hok Jb Jb) (all_of_take hoq Jb Jb)
   replace c78 := eq_of_bneF c78
   refine Gq Ja ?_
   refine qs 9 ?_
   refine Gk (q + 1) ⟨by omega, take_step hoq hkl hkm c78⟩ Jb srA subF
  refine qs 15 ?_
  first | refine Gb Tryz.results14 HZ subA (hT ?_) | refine Gb Tryz.results14 HZ subA (hF ?_)
  first
  | (intro e; subst e; exact absurd rfl ‹_›)
  | exact fun e => ne_at hkl hkm c60 (by rw [e])
  | exact fun e => ne_at hkl hkm c78 (by rw [e])
  | exact fun e => absurd (congrArg Ty.kind e) ‹_›
  | exact fun e => absurd (congrArg Ty.name e) ‹_›
  | exact fun e => absurd (congrArg Ty.n e) ‹_›
  | exact fun e => c33 (by rw [e])
  | exact fun e => c42 (by rw [e])
  | exact ty_ext c11 c17 c24 (all_of_take hok Jb Jb) (all_of_take hoq Jb Jb)
theorem ty_cells {hx : H} {b o : Nat} {t : Ty} (hat : AtR hx b o (eTy t)) : ∃ a1 k1 c1 a2 k2 c2, (∀ (j : Nat) (v : Value), [Value.int .i64 t.kind, S t.name, .int .i64 t.n, .slice a1 k1 c1, .slice a2 k2 c2][j]? = some v → hx b (o + j) = some v) ∧ (fW t a1 k1 c1).holds hx ∧ (fK t a2 k2 c2).holds hx := by
  obtain ⟨vs, fs, _, h1, h2, a1, k1, c1, a2, k2, c2, rfl, rfl⟩ := absorb_of (eTy t) o hat (fun vs fs => ∃ a1 k1 c1 a2 k2 c2, vs = [Value.int .i64 t.kind, S t.name, .int .i64 t.n, .slice a1 k1 c1, .slice a2 k2 c2] ∧ fs = [fW t a1 k1 c1, fK t a2 k2 c2]) (by
    intro a1 k1 c1 a2 k2 c2
    exact ⟨a1, k1, c1, a2, k2, c2, rfl, rfl⟩)
  exact ⟨a1, k1, c1, a2, k2, c2, h1, h2 _ (by simp), h2 _ (by simp)⟩
abbrev fL (l : List Ty) (a : Option Addr) (k c : Nat) : Fact := .slc (.slice a k c) 5 (l.map eTy)
end
end Go.Sy
namespace Go.Sy
open Go
structure Key where
  kind : Int
  n : Int
  name : List UInt8
  words : List UInt8
  kids : List UInt8
  lengths : List UInt8
deriving DecidableEq
def lensOf (ws : List (List UInt8)) : List Int := ws.map fun w => (w.length : Int)
def keyT (t : Ty) : Key := ⟨t.kind, t.n, t.name, t.words.flatten, commas t.kids, commas (lensOf t.words)⟩
theorem key_inj {t u : Ty} (h : keyT t = keyT u) : t = u := by
  unfold keyT at h
  simp only [Key.mk.injEq] at h
  obtain ⟨h1, h2, h3, h4, h5, h6⟩ := h
  have h7 := commas_inj _ _ h6
  have h8 : t.words.map List.length = u.words.map List.length := by
    have := congrArg (List.map Int.toNat) h7
    simpa [lensOf, Function.comp_def] using this
  exact ty_ext h1 h3 h2 (flatten_inj _ _ h8 h4) (commas_inj _ _ h5)
def fieldN (w : List UInt8) : List UInt8 := match w with | 43 :: r => r | _ => w
def fieldAt (ws : List (List UInt8)) (i : Nat) (hi : i < ws.length) : Prop :=
  isName (fieldN ws[i]) = true ∧ ∀ j (hj : j < i), fieldN ws[j] = fieldN ws[i] → fieldN ws[i] = [95]
def fieldsP (ws : List (List UInt8)) : Prop := ∀ i (hi : i < ws.length), fieldAt ws i hi
def markP (w : List UInt8) : Prop := w = [61] ∨ w = [126]
def kindAt (l : List Ty) (k : Int) : Int := ((l[k.toNat]?).map Ty.kind).getD 0
def kidAt (t : Ty) (i : Nat) : Int := t.kids.getD i 0
def elemAtP (l : List Ty) (t : Ty) (i : Nat) (hi : i < t.words.length) : Prop :=
  (markP t.words[i] ∧ 2 ≤ t.n ∧ kindAt l (kidAt t i) ≠ 7 ∧ kindAt l (kidAt t i) ≠ 9 ∧ ¬(14 ≤ kidAt t i ∧ kidAt t i ≤ 19) ∧ (0 < i → markP (t.words.getD (i - 1) []) → kidAt t (i - 1) < kidAt t i)) ∨
  (¬ markP t.words[i] ∧ isName t.words[i] = true ∧ kindAt l (kidAt t i) = 5 ∧ (0 < i → ¬ markP (t.words.getD (i - 1) []) ∧ Op.bytesLess (t.words.getD (i - 1) []) t.words[i] = true))
def elemsP (l : List Ty) (t : Ty) : Prop := t.words.length = t.kids.length ∧ 0 ≤ t.n ∧ t.n ≤ 3 ∧ ∀ i (hi : i < t.words.length), elemAtP l t i hi
def namedP (s : List UInt8) : Prop := (cutD 46 s).2.2 = true ∧ isName (cutD 46 s).1 = true ∧ isName (cutD 46 s).2.1 = true
def madeK (l : List Ty) (t : Ty) : Prop :=
  (t.kind = 1 ∧ t.n = 0 ∧ t.kids.length = 1) ∨ (t.kind = 2 ∧ t.n = 0 ∧ t.kids.length = 1) ∨ (t.kind = 3 ∧ 0 ≤ t.n ∧ t.n ≤ 2147483648 ∧ t.kids.length = 1) ∨ (t.kind = 4 ∧ t.n = 0 ∧ t.kids.length = 2) ∨ (t.kind = 5 ∧ (t.n = 0 ∨ t.n = 1 ∧ 0 < t.kids.length)) ∨
  (t.kind = 6 ∧ t.n = 0 ∧ fieldsP t.words ∧ t.words.length = t.kids.length) ∨ (t.kind = 7 ∧ elemsP l t) ∨ (t.kind = 8 ∧ t.n = 0 ∧ namedP t.name) ∨ (t.kind = 9 ∧ 0 ≤ t.n ∧ t.n < 16 ∧ t.kids.length = 0)
def kidsP (l : List Ty) (t : Ty) : Prop := ∀ k ∈ t.kids, 0 ≤ k ∧ k < l.length
def madeP (l : List Ty) (t : Ty) : Prop :=
  kidsP l t ∧ t.kids.length ≤ 16 ∧ (t.kind ≠ 8 → t.name = []) ∧ (t.kind ≠ 6 → t.kind ≠ 7 → t.words = []) ∧ madeK l t
def startNames : List (List UInt8) := [[98, 111, 111, 108], [115, 116, 114, 105, 110, 103], [105, 110, 116], [105, 110, 116, 56], [105, 110, 116, 49, 54], [105, 110, 116, 51, 50], [105, 110, 116, 54, 52], [117, 105, 110, 116], [117, 105, 110, 116, 56], [117, 105, 110, 116, 49, 54], [117, 105, 110, 116, 51, 50], [117, 105, 110, 116, 54, 52], [102, 108, 111, 97, 116, 51, 50], [102, 108, 111, 97, 116, 54, 52], [117, 110, 116, 121, 112, 101, 100, 32, 98, 111, 111, 108], [117, 110, 116, 121, 112, 101, 100, 32, 115, 116, 114, 105, 110, 103], [117, 110, 116, 121, 112, 101, 100, 32, 105, 110, 116], [117, 110, 116, 121, 112, 101, 100, 32, 114, 117, 110, 101], [117, 110, 116, 121, 112, 101, 100, 32, 102, 108, 111, 97, 116], [117, 110, 116, 121, 112, 101, 100, 32, 110, 105, 108]]
def basicT (s : List UInt8) : Ty := ⟨0, s, 0, [], []⟩
def startL : List Ty := startNames.map basicT ++ [⟨7, [], 0, [], []⟩, ⟨7, [], 1, [], []⟩]
def rowAt (l : List Ty) (i : Nat) (hi : i < l.length) : Prop := if i < 22 then l[i] = startL.getD i (basicT []) else madeP (l.take i) l[i] ∧ l[i] ∉ l.take i
def rightP (l : List Ty) : Prop := 22 ≤ l.length ∧ l.length ≤ 400 ∧ ∀ i (hi : i < l.length), rowAt l i hi
theorem start_once : startL.Nodup := by decide
theorem right_once {l : List Ty} (h : rightP l) : ∀ i (hi : i < l.length), l[i] ∉ l.take i := by
  intro i hi
  have hr := h.2.2 i hi
  unfold rowAt at hr
  by_cases c : i < 22
  · rw [if_pos c] at hr
    intro hm
    obtain ⟨j, hj, e⟩ := List.getElem_of_mem hm
    have hji : j < i := by simp at hj; omega
    rw [List.getElem_take] at e
    have hr2 := h.2.2 j Jb
    unfold rowAt at hr2
    rw [if_pos Jb] at hr2
    rw [hr, hr2] at e
    have hl : startL.length = 22 := by decide
    have e2 : startL[j]'Jb = startL[i]'Jb := by
      have g : ∀ k (hk : k < startL.length), startL.getD k (basicT []) = startL[k] := by intro k hk; simp [List.getD, List.getElem?_eq_getElem hk]
      rw [← g j Jb, ← g i Jb]
      exact e
    have := (List.getElem_inj (h₀ := by omega) (h₁ := by omega) start_once).1 e2
    omega
  rw [if_neg c] at hr
  exact hr.2
end Go.Sy
namespace Go.Sy
abbrev Hy := @right_once
end Go.Sy
