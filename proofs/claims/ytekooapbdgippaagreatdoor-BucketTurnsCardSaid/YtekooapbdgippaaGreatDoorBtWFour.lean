/- Whatever is done at two keys of a bucket comes to the same versions either way round, wherever both go, but for the numbers that are given; whatever the input, as the row says. Part 4 of 26. -/
import Derived.Test.YtekooapbdgippaaGreatDoorBtWTab
/-! ### 56. Four, five, six operations that may come up next, in any order -/
namespace Go.Proofs.YtekooapbdgippaaGreatDoorW.PrintLast
section
variable {P : Program} {ops : Array Oper} {Q : Exit → Act → World → Prop} {md : Region.Mode} {S : World → Prop} {ds : List Nat} {T : Bool × List (List Nat × List Nat)}
end
end Go.Proofs.YtekooapbdgippaaGreatDoorW.PrintLast
