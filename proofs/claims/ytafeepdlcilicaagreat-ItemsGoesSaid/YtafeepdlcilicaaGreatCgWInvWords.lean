/- The law ItemsGoes of the seat: a depot's items, turned by the changes between two depots, go to the other's. Part 18 of 26. -/
import Derived.Test.YtafeepdlcilicaaGreatCgWInv
import Derived.Test.YtafeepdlcilicaaGreatCgWFootNe
-- WInvWords
namespace Go.Proofs.YtafeepdlcilicaaGreatW.PrintWords
open Go.RowKit
end Go.Proofs.YtafeepdlcilicaaGreatW.PrintWords
namespace Go.Proofs.YtafeepdlcilicaaGreatW.PrintLast
section
variable {ops : Array Oper} {a : Act} {o og : Oper} {g : Nat} {t : Tmp} {u : Bool}
end
end Go.Proofs.YtafeepdlcilicaaGreatW.PrintLast
