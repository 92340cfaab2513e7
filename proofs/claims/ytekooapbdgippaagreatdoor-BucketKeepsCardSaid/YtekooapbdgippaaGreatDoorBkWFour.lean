/- After each of what is done, every version that was laid is found as it was laid, at its key and its number; whatever the input, as the row says. Part 4 of 26. -/
import Derived.Test.YtekooapbdgippaaGreatDoorBkWTab
/-! ### 56. Four, five, six operations that may come up next, in any order -/
namespace Go.Proofs.YtekooapbdgippaaGreatDoorW.PrintLast
section
variable {P : Program} {ops : Array Oper} {Q : Exit → Act → World → Prop} {md : Region.Mode} {S : World → Prop} {ds : List Nat} {T : Bool × List (List Nat × List Nat)}
end
end Go.Proofs.YtekooapbdgippaaGreatDoorW.PrintLast
