/- ItemsDiffs holds: items.With and items.Diff against the reference's Part 18 of 25. -/
import Derived.Test.YtmckpkiodcmbeaaGreatCdWInv
import Derived.Test.YtmckpkiodcmbeaaGreatCdWFootNe
-- WInvWords
namespace Go.Proofs.YtmckpkiodcmbeaaGreatW.PrintWords
open Go.RowKit
end Go.Proofs.YtmckpkiodcmbeaaGreatW.PrintWords
namespace Go.Proofs.YtmckpkiodcmbeaaGreatW.PrintLast
section
variable {ops : Array Oper} {a : Act} {o og : Oper} {g : Nat} {t : Tmp} {u : Bool}
end
end Go.Proofs.YtmckpkiodcmbeaaGreatW.PrintLast
