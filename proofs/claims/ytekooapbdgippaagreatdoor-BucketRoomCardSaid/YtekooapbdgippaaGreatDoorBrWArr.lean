/- BucketRoom holds for every input: a bucket never has more octets than may be; a version for which there is no room is refused. The conditions are those of the row: every bucket, key and data that the types of the program allow. Part 7 of 26. -/
import Derived.Test.YtekooapbdgippaaGreatDoorBrWWords
/-! ### 41. Arrays '[n]T' as_ values: a kind (a field, an element of a row), an element read, an element set -/
namespace Go.Proofs.YtekooapbdgippaaGreatDoorW.PrintWords
open Go.RowKit
namespace Kd
section
variable {α : Type} {n : Nat} {d : Kd α} {hs : 0 < d.sz} {w : World} {base : Nat} {ok : Nat → Prop} {xs : List α} {cs : List Value}
end
section
variable {α : Type} {n : Nat} {enc : α → Value} {h1 : ∀ x, (enc x).oneCell' = true} {hs : 0 < (scalar enc h1).sz} {w : World} {base : Nat} {ok : Nat → Prop} {xs : List α} {cs : List Value}
end
end Kd
end Go.Proofs.YtekooapbdgippaaGreatDoorW.PrintWords
