/- The law ItemsNames of the seat: the names of items are said once. Part 4 of 26. -/
import Derived.Test.YtafeepdlcilicaaGreatCnWTab
-- WFour
/-! ### 56. Four, five, six operations that may come up next, in any order -/
namespace Go.Proofs.YtafeepdlcilicaaGreatW.PrintLast
section
variable {P : Program} {ops : Array Oper} {Q : Exit → Act → World → Prop} {md : Region.Mode} {S : World → Prop} {ds : List Nat} {T : Bool × List (List Nat × List Nat)}
end
end Go.Proofs.YtafeepdlcilicaaGreatW.PrintLast
