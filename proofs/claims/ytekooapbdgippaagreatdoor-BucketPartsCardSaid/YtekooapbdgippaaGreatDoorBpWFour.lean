/- What comes in parts is in the end what a Put of it would be: the latest version of the key has those octets, and the upload is gone; whatever the input, as the row says. Part 4 of 26. -/
import Derived.Test.YtekooapbdgippaaGreatDoorBpWTab
/-! ### 56. Four, five, six operations that may come up next, in any order -/
namespace Go.Proofs.YtekooapbdgippaaGreatDoorW.PrintLast
section
variable {P : Program} {ops : Array Oper} {Q : Exit → Act → World → Prop} {md : Region.Mode} {S : World → Prop} {ds : List Nat} {T : Bool × List (List Nat × List Nat)}
end
end Go.Proofs.YtekooapbdgippaaGreatDoorW.PrintLast
