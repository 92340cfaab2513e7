/- The law PartsTurns returns true for every input that its row lets in (the tied card), under the row's own conditions and no others. Part 4 of 27. -/
import Derived.Test.YtgpmkbmobdbdoaaDoorPtWTab
-- WFour
/-! ### 56. Four, five, six operations that may come up next, in any order -/
namespace Go.Proofs.YtgpmkbmobdbdoaaDoorW.PrintLast
section
variable {P : Program} {ops : Array Oper} {Q : Exit → Act → World → Prop} {md : Region.Mode} {S : World → Prop} {ds : List Nat} {T : Bool × List (List Nat × List Nat)}
end
end Go.Proofs.YtgpmkbmobdbdoaaDoorW.PrintLast
