/- Joined of my own texts: FwN. -/
import Derived.Test.YtodaafgpfjcpgaaGreatDoorX6
import Derived.Laws.Small
import Derived.Laws.BitsAllLaws
namespace Go.Sy
open Go Go.RowKit
section
variable {P : Program} {W0 : World} {n : Nat} {K : Act → World → Prop} {Q : Po} {ρ : Rho} {L : List Res} {F : List Fact} {ro : Option Nat} {ds : List Deferred}
end
end Go.Sy
