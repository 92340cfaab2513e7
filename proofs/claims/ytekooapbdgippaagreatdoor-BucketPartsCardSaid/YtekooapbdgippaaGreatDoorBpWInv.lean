/- What comes in parts is in the end what a Put of it would be: the latest version of the key has those octets, and the upload is gone; whatever the input, as the row says. Part 17 of 26. -/
import Derived.Test.YtekooapbdgippaaGreatDoorBpWTab
/-! ### 57. A region of open order by ONE relation over what is listed so far: each operation is shown once, whatever came up before it -/
namespace Go.Proofs.YtekooapbdgippaaGreatDoorW.PrintLast
/-- Number i is listed too. -/
def up (b : Nat → Bool) (i : Nat) : Nat → Bool := fun j => if j = i then true else b j
section
variable {P : Program} {ops : Array Oper} {Q : Exit → Act → World → Prop} {md : Region.Mode} {T : Bool × List (List Nat × List Nat)} {B : List Nat} {O : List Nat} {b : Nat → Bool} {i j n : Nat}
/-! The frame: what is listed has its destination filled. -/
end
end Go.Proofs.YtekooapbdgippaaGreatDoorW.PrintLast
