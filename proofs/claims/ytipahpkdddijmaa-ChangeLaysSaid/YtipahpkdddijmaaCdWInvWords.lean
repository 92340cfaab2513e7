/- The law ChangeDead returns true for every input that its row lets in, under the row's own conditions and no others. Part 18 of 23. -/
import Derived.Test.YtipahpkdddijmaaCdWInv
import Derived.Test.YtipahpkdddijmaaCdWFootNe
-- WInvWords
namespace Go.Proofs.YtipahpkdddijmaaW.PrintWords
open Go.RowKit
end Go.Proofs.YtipahpkdddijmaaW.PrintWords
namespace Go.Proofs.YtipahpkdddijmaaW.PrintLast
section
variable {ops : Array Oper} {a : Act} {o og : Oper} {g : Nat} {t : Tmp} {u : Bool}
end
end Go.Proofs.YtipahpkdddijmaaW.PrintLast
