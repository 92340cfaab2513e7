/- The law PartsTurns returns true for every input that its row lets in (the tied card), under the row's own conditions and no others. Part 18 of 27. -/
import Derived.Test.YtgpmkbmobdbdoaaDoorPtWInv
import Derived.Test.YtgpmkbmobdbdoaaDoorPtWFootNe
-- WInvWords
namespace Go.Proofs.YtgpmkbmobdbdoaaDoorW.PrintWords
open Go.RowKit
end Go.Proofs.YtgpmkbmobdbdoaaDoorW.PrintWords
namespace Go.Proofs.YtgpmkbmobdbdoaaDoorW.PrintLast
section
variable {ops : Array Oper} {a : Act} {o og : Oper} {g : Nat} {t : Tmp} {u : Bool}
end
end Go.Proofs.YtgpmkbmobdbdoaaDoorW.PrintLast
