/- For every list of uploads, every number and every part, the law PartsLays returns true and leaves its arguments as they read before. Part 4 of 25. -/
import Derived.Test.YtgpmkbmobdbdoaaGreatDoorLyWTab
-- WFour
/-! ### 56. Four, five, six operations that may come up next, in any order -/
namespace Go.Proofs.YtgpmkbmobdbdoaaGreatDoorW.PrintLast
section
variable {P : Program} {ops : Array Oper} {Q : Exit → Act → World → Prop} {md : Region.Mode} {S : World → Prop} {ds : List Nat} {T : Bool × List (List Nat × List Nat)}
end
end Go.Proofs.YtgpmkbmobdbdoaaGreatDoorW.PrintLast
