/- The law PartsTurns returns true for every input that its row lets in (the tied card), under the row's own conditions and no others. Part 13 of 27. -/
import Derived.Test.YtgpmkbmobdbdoaaDoorPtWN
-- WFootNe
/-! ### 52. A row that stays read whatever happens to a block (a set of blocks) doesn't lie there -/
namespace Go.Proofs.YtgpmkbmobdbdoaaDoorW.PrintWords
open Go.RowKit
namespace Kd
section
variable {α : Type} {d : Kd α} {W : World} {g n : Nat} {S ok : Nat → Prop} {A : Option Addr} {ad : Addr} {xs : List α}
end
end Kd
end Go.Proofs.YtgpmkbmobdbdoaaDoorW.PrintWords
