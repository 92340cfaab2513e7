/- Whatever is done at two keys of a bucket comes to the same versions either way round, wherever both go, but for the numbers that are given; whatever the input, as the row says. Part 18 of 26. -/
import Derived.Test.YtekooapbdgippaaGreatDoorBtWInv
import Derived.Test.YtekooapbdgippaaGreatDoorBtWFootNe
namespace Go.Proofs.YtekooapbdgippaaGreatDoorW.PrintWords
open Go.RowKit
end Go.Proofs.YtekooapbdgippaaGreatDoorW.PrintWords
namespace Go.Proofs.YtekooapbdgippaaGreatDoorW.PrintLast
section
variable {ops : Array Oper} {a : Act} {o og : Oper} {g : Nat} {t : Tmp} {u : Bool}
end
end Go.Proofs.YtekooapbdgippaaGreatDoorW.PrintLast
