/- For every list of uploads, every number and every part, the law PartsLays returns true and leaves its arguments as they read before. Part 13 of 25. -/
import Derived.Test.YtgpmkbmobdbdoaaGreatDoorLyWN
-- WFootNe
/-! ### 52. A row that stays read whatever happens to a block (a set of blocks) doesn't lie there -/
namespace Go.Proofs.YtgpmkbmobdbdoaaGreatDoorW.PrintWords
open Go.RowKit
namespace Kd
section
variable {α : Type} {d : Kd α} {W : World} {g n : Nat} {S ok : Nat → Prop} {A : Option Addr} {ad : Addr} {xs : List α}
end
end Kd
end Go.Proofs.YtgpmkbmobdbdoaaGreatDoorW.PrintWords
