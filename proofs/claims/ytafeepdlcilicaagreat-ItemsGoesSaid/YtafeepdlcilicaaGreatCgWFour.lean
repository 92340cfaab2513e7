/- The law ItemsGoes of the seat: a depot's items, turned by the changes between two depots, go to the other's. Part 4 of 26. -/
import Derived.Test.YtafeepdlcilicaaGreatCgWTab
-- WFour
/-! ### 56. Four, five, six operations that may come up next, in any order -/
namespace Go.Proofs.YtafeepdlcilicaaGreatW.PrintLast
section
variable {P : Program} {ops : Array Oper} {Q : Exit → Act → World → Prop} {md : Region.Mode} {S : World → Prop} {ds : List Nat} {T : Bool × List (List Nat × List Nat)}
end
end Go.Proofs.YtafeepdlcilicaaGreatW.PrintLast
