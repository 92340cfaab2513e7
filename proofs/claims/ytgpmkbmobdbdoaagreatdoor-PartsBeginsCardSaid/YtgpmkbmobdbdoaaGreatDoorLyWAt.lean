/- For every list of uploads, every number and every part, the law PartsLays returns true and leaves its arguments as they read before. Part 14 of 25. -/
import Derived.Test.YtgpmkbmobdbdoaaGreatDoorLyWFootNe
-- WAt
/-! ### 54. Behind orders that were drawn quietly: the same facts at the world's new name; a flat row's foot -/
namespace Go.Proofs.YtgpmkbmobdbdoaaGreatDoorW.PrintWords
open Go.RowKit
section
variable {w w' u : World} {m B g : Nat} {o : Obj} {row : Option Nat} {S : Nat → Prop} {a : Addr} {v : Value}
end
namespace Kd
section
variable {α : Type} {d : Kd α} {e base n m : Nat} {ok : Nat → Prop} {w w' : World} {v : Value} {A : Option Addr} {xs : List α}
end
end Kd
end Go.Proofs.YtgpmkbmobdbdoaaGreatDoorW.PrintWords
