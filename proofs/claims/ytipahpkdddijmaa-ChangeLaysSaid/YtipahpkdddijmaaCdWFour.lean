/- The law ChangeDead returns true for every input that its row lets in, under the row's own conditions and no others. Part 4 of 23. -/
import Derived.Test.YtipahpkdddijmaaCdWTab
-- WFour
/-! ### 56. Four, five, six operations that may come up next, in any order -/
namespace Go.Proofs.YtipahpkdddijmaaW.PrintLast
section
variable {P : Program} {ops : Array Oper} {Q : Exit → Act → World → Prop} {md : Region.Mode} {S : World → Prop} {ds : List Nat} {T : Bool × List (List Nat × List Nat)}
end
end Go.Proofs.YtipahpkdddijmaaW.PrintLast
