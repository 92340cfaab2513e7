/- The law ItemsGoes of the seat: a depot's items, turned by the changes between two depots, go to the other's. Part 13 of 26. -/
import Derived.Test.YtafeepdlcilicaaGreatCgWN
-- WFootNe
/-! ### 52. A row that stays read whatever happens to a block (a set of blocks) doesn't lie there -/
namespace Go.Proofs.YtafeepdlcilicaaGreatW.PrintWords
open Go.RowKit
namespace Kd
section
variable {α : Type} {d : Kd α} {W : World} {g n : Nat} {S ok : Nat → Prop} {A : Option Addr} {ad : Addr} {xs : List α}
end
end Kd
end Go.Proofs.YtafeepdlcilicaaGreatW.PrintWords
