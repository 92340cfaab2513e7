/- Whatever is done, one thing behind the other, from a new bucket on: it may be; what is refused changes nothing; each number is given out once; whatever the input, as the row says. Part 18 of 26. -/
import Derived.Test.YtekooapbdgippaaGreatDoorBsWInv
import Derived.Test.YtekooapbdgippaaGreatDoorBsWFootNe
namespace Go.Proofs.YtekooapbdgippaaGreatDoorW.PrintWords
open Go.RowKit
end Go.Proofs.YtekooapbdgippaaGreatDoorW.PrintWords
namespace Go.Proofs.YtekooapbdgippaaGreatDoorW.PrintLast
section
variable {ops : Array Oper} {a : Act} {o og : Oper} {g : Nat} {t : Tmp} {u : Bool}
end
end Go.Proofs.YtekooapbdgippaaGreatDoorW.PrintLast
