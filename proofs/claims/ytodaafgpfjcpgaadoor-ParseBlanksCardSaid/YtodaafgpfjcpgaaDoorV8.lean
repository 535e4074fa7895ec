/- Joined of my own texts: FwP. -/
import Derived.Test.YtodaafgpfjcpgaaDoorV7
import Derived.Lib.AppendStr
import Derived.Lib.UnsafeStr
import Derived.Lib.Builder
import Derived.Laws.Externs
namespace Go.Sy
open Go Go.RowKit Go.Lib
section
variable {P : Program} {W0 : World} {L : List Res} {F : List Fact} {t u e : TypeId} {v : Value} {lst : List UInt8} {i : Nat}
end
section
variable {P : Program} {W0 : World} {n : Nat} {K : Act → World → Prop} {Q : Po} {ρ : Rho} {L : List Res} {F : List Fact} {t u e : TypeId}
theorem Sub.dropAt {r : Res} {j : Nat} (hj : L[j]? = some r) : Sub L F (L.set j Res.nix) F := fun _ _ s => s.dropAt (has_lt hj)
variable {x y : Operand} {a : Addr} {d : Tmp} {ty yt : TypeId} {pos : String} {af : Array Edge} {g : Option (Nat × Bool)}
end
end Go.Sy
