/- Whatever is done, one thing behind the other, from a new bucket on: it may be; what is refused changes nothing; each number is given out once; whatever the input, as the row says. Part 5 of 26. -/
import Derived.Test.YtekooapbdgippaaGreatDoorBsWWords
import Derived.Test.YtekooapbdgippaaGreatDoorBsWLast
/-! ### 39. Stores into a row that may begin inside its block (Q): Q_form, Q_elem, Q_seg; scalars: Q_cell, Q_putg -/
namespace Go.Proofs.YtekooapbdgippaaGreatDoorW.PrintWords
open Go.RowKit
namespace Kd
section
variable {α : Type} {d : Kd α} {e base g o n cap : Nat} {ok okp : Nat → Prop} {w W : World} {v : Value} {xs : List α}
end
section
variable {α : Type} {enc : α → Value} {h1 : ∀ x, (enc x).oneCell' = true} {e base g o n cap : Nat} {ok : Nat → Prop} {W : World} {xs : List α}
end
end Kd
end Go.Proofs.YtekooapbdgippaaGreatDoorW.PrintWords
