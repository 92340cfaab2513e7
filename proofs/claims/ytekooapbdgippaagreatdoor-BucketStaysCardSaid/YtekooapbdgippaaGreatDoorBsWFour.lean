/- Whatever is done, one thing behind the other, from a new bucket on: it may be; what is refused changes nothing; each number is given out once; whatever the input, as the row says. Part 4 of 26. -/
import Derived.Test.YtekooapbdgippaaGreatDoorBsWTab
/-! ### 56. Four, five, six operations that may come up next, in any order -/
namespace Go.Proofs.YtekooapbdgippaaGreatDoorW.PrintLast
section
variable {P : Program} {ops : Array Oper} {Q : Exit → Act → World → Prop} {md : Region.Mode} {S : World → Prop} {ds : List Nat} {T : Bool × List (List Nat × List Nat)}
end
end Go.Proofs.YtekooapbdgippaaGreatDoorW.PrintLast
