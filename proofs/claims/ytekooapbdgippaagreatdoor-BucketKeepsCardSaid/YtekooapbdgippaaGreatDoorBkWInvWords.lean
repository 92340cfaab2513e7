/- After each of what is done, every version that was laid is found as it was laid, at its key and its number; whatever the input, as the row says. Part 18 of 26. -/
import Derived.Test.YtekooapbdgippaaGreatDoorBkWInv
import Derived.Test.YtekooapbdgippaaGreatDoorBkWFootNe
namespace Go.Proofs.YtekooapbdgippaaGreatDoorW.PrintWords
open Go.RowKit
end Go.Proofs.YtekooapbdgippaaGreatDoorW.PrintWords
namespace Go.Proofs.YtekooapbdgippaaGreatDoorW.PrintLast
section
variable {ops : Array Oper} {a : Act} {o og : Oper} {g : Nat} {t : Tmp} {u : Bool}
end
end Go.Proofs.YtekooapbdgippaaGreatDoorW.PrintLast
