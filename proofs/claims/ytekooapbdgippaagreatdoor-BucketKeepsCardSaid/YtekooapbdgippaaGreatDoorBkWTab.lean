/- After each of what is done, every version that was laid is found as it was laid, at its key and its number; whatever the input, as the row says. Part 3 of 26. -/
import Derived.Test.YtekooapbdgippaaGreatDoorBkWLast
import Derived.Test.YtekooapbdgippaaGreatDoorBkWWords
/-! ### 50. A region's order in a table, made once a region: each step asks the table (numbers alone), not the operations -/
namespace Go.Proofs.YtekooapbdgippaaGreatDoorW.PrintLast
open Go.Proofs.YtekooapbdgippaaGreatDoorW.PrintWords (Aside0)
section
variable {md : Region.Mode} {ops : Array Oper} {T : Bool × List (List Nat × List Nat)} {l l' li lj lk : Array Bool} {ds : List Nat} {i j k : Nat}
theorem gd (l : Array Bool) (j : Nat) (b : Bool) : l.getD j b = l.toList.getD j b := by simp [Array.getD_eq_getD_getElem?, List.getD_eq_getElem?_getD]
end
end Go.Proofs.YtekooapbdgippaaGreatDoorW.PrintLast
