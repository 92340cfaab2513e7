/- For every list of uploads, every number and every part, the law PartsLays returns true and leaves its arguments as they read before. Part 5 of 25. -/
import Derived.Test.YtgpmkbmobdbdoaaGreatDoorLyWWords
import Derived.Test.YtgpmkbmobdbdoaaGreatDoorLyWLast
-- WQPut
/-! ### 39. Stores into a row that may begin inside its block (Q): Q_form, Q_elem, Q_seg; scalars: Q_cell, Q_putg -/
namespace Go.Proofs.YtgpmkbmobdbdoaaGreatDoorW.PrintWords
open Go.RowKit
namespace Kd
section
variable {α : Type} {d : Kd α} {e base g o n cap : Nat} {ok okp : Nat → Prop} {w W : World} {v : Value} {xs : List α}
end
section
variable {α : Type} {enc : α → Value} {h1 : ∀ x, (enc x).oneCell' = true} {e base g o n cap : Nat} {ok : Nat → Prop} {W : World} {xs : List α}
end
end Kd
end Go.Proofs.YtgpmkbmobdbdoaaGreatDoorW.PrintWords
