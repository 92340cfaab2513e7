/-
  DERIVED. GIVEN WITH THE SEED: THE CARDS: each row of YtgpmkbmobdbdoaaDoorRows.lean that lists a variable, with what it lists TIED to the program's text (the seventh form; the later family's looks); each row that meets fmt, with fmt's text TOLD by the authors' own Lean function (tested against real Go, not proved from fmt's source: count such statements apart). THE CARD IS WHAT COUNTS. Prove the row's statement (the work); the ties are given (YtgpmkbmobdbdoaaDoorTie.lean); close each card by the builder's one call (the guide's Derived/Test/ToyasCard.lean, 'card_holds'). Laid BY PROGRAM, IN A SANDBOX (cutbox-door.mjs). By AI agents, Wed Nov 11 2026. No macro, syntax, notation, axiom, sorry.
-/
import Derived.Test.YtgpmkbmobdbdoaaDoorRows
import GoSem.ClaimSeven
namespace Go.Proofs.YtgpmkbmobdbdoaaDoor
namespace Rows

/-- THE TIED CARD OF 'cellarerlaw08.PartsWholes'. -/
def partsWholesCard : Claim7 := { stood := { row := partsWholesRow, standIns := [], harness := (true, "76c20beef55fadc3259f669185c7ebcbfdd7535a325eb728a796db81dacc4999"), looks := false }, kinds := [], alts := [], laidByText := true, laidKinds := [.data, .data, .data], laidTests := true, laidLooks := .later }
def PartsWholesCardSaid : Prop := Claim7.holds Tryd.pinned (.plain (OpenSpec.ofChange partsWholesSpec)) partsWholesCard

/-- THE TIED CARD OF 'cellarerlaw08.PartsTurns'. -/
def partsTurnsCard : Claim7 := { stood := { row := partsTurnsRow, standIns := [], harness := (true, "76c20beef55fadc3259f669185c7ebcbfdd7535a325eb728a796db81dacc4999"), looks := false }, kinds := [], alts := [], laidByText := true, laidKinds := [.data, .data, .data], laidTests := true, laidLooks := .later }
def PartsTurnsCardSaid : Prop := Claim7.holds Tryd.pinned (.plain (OpenSpec.ofChange partsTurnsSpec)) partsTurnsCard

/-- THE TIED CARD OF 'cellarerlaw08.PartsPieces'. -/
def partsPiecesCard : Claim7 := { stood := { row := partsPiecesRow, standIns := [], harness := (true, "76c20beef55fadc3259f669185c7ebcbfdd7535a325eb728a796db81dacc4999"), looks := false }, kinds := [], alts := [], laidByText := true, laidKinds := [.data, .data, .data], laidTests := true, laidLooks := .later }
def PartsPiecesCardSaid : Prop := Claim7.holds Tryd.pinned (.plain (OpenSpec.ofChange partsPiecesSpec)) partsPiecesCard

/-- THE TIED CARD OF 'cellarerlaw08.PartsCounts'. -/
def partsCountsCard : Claim7 := { stood := { row := partsCountsRow, standIns := [], harness := (true, "76c20beef55fadc3259f669185c7ebcbfdd7535a325eb728a796db81dacc4999"), looks := false }, kinds := [], alts := [], laidByText := true, laidKinds := [.data, .data, .data], laidTests := true, laidLooks := .later }
def PartsCountsCardSaid : Prop := Claim7.holds Tryd.pinned (.plain (OpenSpec.ofChange partsCountsSpec)) partsCountsCard

/-- THE TIED CARD OF 'cellarerlaw08.PartsGone'. -/
def partsGoneCard : Claim7 := { stood := { row := partsGoneRow, standIns := [], harness := (true, "76c20beef55fadc3259f669185c7ebcbfdd7535a325eb728a796db81dacc4999"), looks := false }, kinds := [], alts := [], laidByText := true, laidKinds := [.data, .data, .data], laidTests := true, laidLooks := .later }
def PartsGoneCardSaid : Prop := Claim7.holds Tryd.pinned (.plain (OpenSpec.ofChange partsGoneSpec)) partsGoneCard

/-- THE SECOND FORM's CARD OF 'cellarerlaw08.PartsWholes'. -/
def partsWholesUptoCard : Claim7 := { stood := { row := partsWholesUptoRow, standIns := [], harness := (true, "76c20beef55fadc3259f669185c7ebcbfdd7535a325eb728a796db81dacc4999"), looks := false }, kinds := [], alts := [], laidByText := true, laidKinds := [.data, .data, .data], laidTests := true, laidLooks := .later }
def PartsWholesUptoCardSaid : Prop := Claim7.holds Tryd.pinned (.plain (OpenSpec.upto partsWholesSpec)) partsWholesUptoCard

/-- THE SECOND FORM's CARD OF 'cellarerlaw08.PartsTurns'. -/
def partsTurnsUptoCard : Claim7 := { stood := { row := partsTurnsUptoRow, standIns := [], harness := (true, "76c20beef55fadc3259f669185c7ebcbfdd7535a325eb728a796db81dacc4999"), looks := false }, kinds := [], alts := [], laidByText := true, laidKinds := [.data, .data, .data], laidTests := true, laidLooks := .later }
def PartsTurnsUptoCardSaid : Prop := Claim7.holds Tryd.pinned (.plain (OpenSpec.upto partsTurnsSpec)) partsTurnsUptoCard

/-- THE SECOND FORM's CARD OF 'cellarerlaw08.PartsPieces'. -/
def partsPiecesUptoCard : Claim7 := { stood := { row := partsPiecesUptoRow, standIns := [], harness := (true, "76c20beef55fadc3259f669185c7ebcbfdd7535a325eb728a796db81dacc4999"), looks := false }, kinds := [], alts := [], laidByText := true, laidKinds := [.data, .data, .data], laidTests := true, laidLooks := .later }
def PartsPiecesUptoCardSaid : Prop := Claim7.holds Tryd.pinned (.plain (OpenSpec.upto partsPiecesSpec)) partsPiecesUptoCard

/-- THE SECOND FORM's CARD OF 'cellarerlaw08.PartsCounts'. -/
def partsCountsUptoCard : Claim7 := { stood := { row := partsCountsUptoRow, standIns := [], harness := (true, "76c20beef55fadc3259f669185c7ebcbfdd7535a325eb728a796db81dacc4999"), looks := false }, kinds := [], alts := [], laidByText := true, laidKinds := [.data, .data, .data], laidTests := true, laidLooks := .later }
def PartsCountsUptoCardSaid : Prop := Claim7.holds Tryd.pinned (.plain (OpenSpec.upto partsCountsSpec)) partsCountsUptoCard

/-- THE SECOND FORM's CARD OF 'cellarerlaw08.PartsGone'. -/
def partsGoneUptoCard : Claim7 := { stood := { row := partsGoneUptoRow, standIns := [], harness := (true, "76c20beef55fadc3259f669185c7ebcbfdd7535a325eb728a796db81dacc4999"), looks := false }, kinds := [], alts := [], laidByText := true, laidKinds := [.data, .data, .data], laidTests := true, laidLooks := .later }
def PartsGoneUptoCardSaid : Prop := Claim7.holds Tryd.pinned (.plain (OpenSpec.upto partsGoneSpec)) partsGoneUptoCard
end Rows
end Go.Proofs.YtgpmkbmobdbdoaaDoor
