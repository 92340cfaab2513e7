/- For every list of uploads, every number and every part, the law PartsLays returns true and leaves its arguments as they read before. Part 18 of 25. -/
import Derived.Test.YtgpmkbmobdbdoaaGreatDoorLyWInv
import Derived.Test.YtgpmkbmobdbdoaaGreatDoorLyWFootNe
-- WInvWords
namespace Go.Proofs.YtgpmkbmobdbdoaaGreatDoorW.PrintWords
open Go.RowKit
end Go.Proofs.YtgpmkbmobdbdoaaGreatDoorW.PrintWords
namespace Go.Proofs.YtgpmkbmobdbdoaaGreatDoorW.PrintLast
section
variable {ops : Array Oper} {a : Act} {o og : Oper} {g : Nat} {t : Tmp} {u : Bool}
end
end Go.Proofs.YtgpmkbmobdbdoaaGreatDoorW.PrintLast
