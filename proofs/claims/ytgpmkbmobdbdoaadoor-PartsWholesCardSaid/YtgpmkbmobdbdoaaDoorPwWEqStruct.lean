/- The law PartsWholes returns true for every input that its row lets in (the tied card), under the row's own conditions and no others. Part 15 of 26. -/
import Derived.Test.YtgpmkbmobdbdoaaDoorPwWWords
import Derived.Laws.StructEq
-- WEqStruct
/-! ### 53. '==' of structs as_ one Bool -/
namespace Go.Proofs.YtgpmkbmobdbdoaaDoorW.PrintWords
open Go.RowKit
section
variable {P : Program} {d : Nat} {xs ys : Array Value} {f : Field} {fs : List Field} {a b : Value} {r s : Bool} {w : World}
end
end Go.Proofs.YtgpmkbmobdbdoaaDoorW.PrintWords
