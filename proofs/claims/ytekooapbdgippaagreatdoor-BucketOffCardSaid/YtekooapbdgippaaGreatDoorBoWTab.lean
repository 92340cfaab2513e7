/- Of a bucket that is Off, whatever is put and deleted, one thing behind the other, from a new bucket on, each key has one version at the most, the last that was put; no number is given out; whatever the input, as the row says. Part 3 of 26. -/
import Derived.Test.YtekooapbdgippaaGreatDoorBoWLast
import Derived.Test.YtekooapbdgippaaGreatDoorBoWWords
/-! ### 50. A region's order in a table, made once a region: each step asks the table (numbers alone), not the operations -/
namespace Go.Proofs.YtekooapbdgippaaGreatDoorW.PrintLast
open Go.Proofs.YtekooapbdgippaaGreatDoorW.PrintWords (Aside0)
section
variable {md : Region.Mode} {ops : Array Oper} {T : Bool × List (List Nat × List Nat)} {l l' li lj lk : Array Bool} {ds : List Nat} {i j k : Nat}
theorem gd (l : Array Bool) (j : Nat) (b : Bool) : l.getD j b = l.toList.getD j b := by simp [Array.getD_eq_getD_getElem?, List.getD_eq_getElem?_getD]
end
end Go.Proofs.YtekooapbdgippaaGreatDoorW.PrintLast
