/- The law ChangeDead returns true for every input that its row lets in, under the row's own conditions and no others. Part 3 of 23. -/
import Derived.Test.YtipahpkdddijmaaCdWLast
import Derived.Test.YtipahpkdddijmaaCdWWords
-- WTab
/-! ### 50. A region's order in a table, made once a region: each step asks the table (numbers alone), not the operations -/
namespace Go.Proofs.YtipahpkdddijmaaW.PrintLast
open Go.Proofs.YtipahpkdddijmaaW.PrintWords (Aside0)
section
variable {md : Region.Mode} {ops : Array Oper} {T : Bool × List (List Nat × List Nat)} {l l' li lj lk : Array Bool} {ds : List Nat} {i j k : Nat}
end
end Go.Proofs.YtipahpkdddijmaaW.PrintLast
