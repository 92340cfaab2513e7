/- Of a bucket that is Off, whatever is put and deleted, one thing behind the other, from a new bucket on, each key has one version at the most, the last that was put; no number is given out; whatever the input, as the row says. Part 18 of 26. -/
import Derived.Test.YtekooapbdgippaaGreatDoorBoWInv
import Derived.Test.YtekooapbdgippaaGreatDoorBoWFootNe
namespace Go.Proofs.YtekooapbdgippaaGreatDoorW.PrintWords
open Go.RowKit
end Go.Proofs.YtekooapbdgippaaGreatDoorW.PrintWords
namespace Go.Proofs.YtekooapbdgippaaGreatDoorW.PrintLast
section
variable {ops : Array Oper} {a : Act} {o og : Oper} {g : Nat} {t : Tmp} {u : Bool}
end
end Go.Proofs.YtekooapbdgippaaGreatDoorW.PrintLast
