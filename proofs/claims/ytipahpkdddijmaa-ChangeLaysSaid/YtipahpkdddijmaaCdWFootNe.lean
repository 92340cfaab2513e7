/- The law ChangeDead returns true for every input that its row lets in, under the row's own conditions and no others. Part 13 of 23. -/
import Derived.Test.YtipahpkdddijmaaCdWN
-- WFootNe
/-! ### 52. A row that stays read whatever happens to a block (a set of blocks) doesn't lie there -/
namespace Go.Proofs.YtipahpkdddijmaaW.PrintWords
open Go.RowKit
namespace Kd
section
variable {α : Type} {d : Kd α} {W : World} {g n : Nat} {S ok : Nat → Prop} {A : Option Addr} {ad : Addr} {xs : List α}
end
end Kd
end Go.Proofs.YtipahpkdddijmaaW.PrintWords
