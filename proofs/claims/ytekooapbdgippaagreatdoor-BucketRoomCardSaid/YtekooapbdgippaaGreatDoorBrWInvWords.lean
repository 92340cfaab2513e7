/- BucketRoom holds for every input: a bucket never has more octets than may be; a version for which there is no room is refused. The conditions are those of the row: every bucket, key and data that the types of the program allow. Part 18 of 26. -/
import Derived.Test.YtekooapbdgippaaGreatDoorBrWInv
import Derived.Test.YtekooapbdgippaaGreatDoorBrWFootNe
namespace Go.Proofs.YtekooapbdgippaaGreatDoorW.PrintWords
open Go.RowKit
end Go.Proofs.YtekooapbdgippaaGreatDoorW.PrintWords
namespace Go.Proofs.YtekooapbdgippaaGreatDoorW.PrintLast
section
variable {ops : Array Oper} {a : Act} {o og : Oper} {g : Nat} {t : Tmp} {u : Bool}
end
end Go.Proofs.YtekooapbdgippaaGreatDoorW.PrintLast
