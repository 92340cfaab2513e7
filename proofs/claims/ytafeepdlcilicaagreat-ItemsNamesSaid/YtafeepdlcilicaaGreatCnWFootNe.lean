/- The law ItemsNames of the seat: the names of items are said once. Part 13 of 26. -/
import Derived.Test.YtafeepdlcilicaaGreatCnWN
-- WFootNe
/-! ### 52. A row that stays read whatever happens to a block (a set of blocks) doesn't lie there -/
namespace Go.Proofs.YtafeepdlcilicaaGreatW.PrintWords
open Go.RowKit
namespace Kd
section
variable {α : Type} {d : Kd α} {W : World} {g n : Nat} {S ok : Nat → Prop} {A : Option Addr} {ad : Addr} {xs : List α}
end
end Kd
end Go.Proofs.YtafeepdlcilicaaGreatW.PrintWords
