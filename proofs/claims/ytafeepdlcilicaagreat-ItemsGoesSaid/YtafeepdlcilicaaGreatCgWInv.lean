/- The law ItemsGoes of the seat: a depot's items, turned by the changes between two depots, go to the other's. Part 17 of 26. -/
import Derived.Test.YtafeepdlcilicaaGreatCgWTab
-- WInv
/-! ### 57. A region of open order by ONE relation over what is listed so far: each operation is shown once, whatever came up before it -/
namespace Go.Proofs.YtafeepdlcilicaaGreatW.PrintLast
section
variable {P : Program} {ops : Array Oper} {Q : Exit → Act → World → Prop} {md : Region.Mode} {T : Bool × List (List Nat × List Nat)} {B : List Nat} {O : List Nat} {b : Nat → Bool} {i j n : Nat}
/-! The frame: what is listed has its destination filled. -/
end
end Go.Proofs.YtafeepdlcilicaaGreatW.PrintLast
