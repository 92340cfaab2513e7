/- BucketRoom holds for every input: a bucket never has more octets than may be; a version for which there is no room is refused. The conditions are those of the row: every bucket, key and data that the types of the program allow. Part 14 of 26. -/
import Derived.Test.YtekooapbdgippaaGreatDoorBrWFootNe
/-! ### 54. Behind orders that were drawn quietly: the same facts at the world's new name; a flat row's foot -/
namespace Go.Proofs.YtekooapbdgippaaGreatDoorW.PrintWords
open Go.RowKit
section
variable {w w' u : World} {m B g : Nat} {o : Obj} {row : Option Nat} {S : Nat → Prop} {a : Addr} {v : Value}
end
namespace Kd
section
variable {α : Type} {d : Kd α} {e base n m : Nat} {ok : Nat → Prop} {w w' : World} {v : Value} {A : Option Addr} {xs : List α}
end
end Kd
end Go.Proofs.YtekooapbdgippaaGreatDoorW.PrintWords
