/- The law ItemsNames of the seat: the names of items are said once. Part 18 of 26. -/
import Derived.Test.YtafeepdlcilicaaGreatCnWInv
import Derived.Test.YtafeepdlcilicaaGreatCnWFootNe
-- WInvWords
namespace Go.Proofs.YtafeepdlcilicaaGreatW.PrintWords
open Go.RowKit
end Go.Proofs.YtafeepdlcilicaaGreatW.PrintWords
namespace Go.Proofs.YtafeepdlcilicaaGreatW.PrintLast
section
variable {ops : Array Oper} {a : Act} {o og : Oper} {g : Nat} {t : Tmp} {u : Bool}
end
end Go.Proofs.YtafeepdlcilicaaGreatW.PrintLast
