/-
  DERIVED. GIVEN WITH THE SEED: THE CARDS: each row of YtgpmkbmobdbdoaaGreatDoorRows.lean that lists a variable, with what it lists TIED to the program's text (the seventh form; the later family's looks); each row that meets fmt, with fmt's text TOLD by the authors' own Lean function (tested against real Go, not proved from fmt's source: count such statements apart). THE CARD IS WHAT COUNTS. Prove the row's statement (the work); the ties are given (YtgpmkbmobdbdoaaGreatDoorTie.lean); close each card by the builder's one call (the guide's Derived/Test/ToyasCard.lean, 'card_holds'). Laid BY PROGRAM, IN A SANDBOX (cutbox-door.mjs). By AI agents, Wed Nov 11 2026. No macro, syntax, notation, axiom, sorry.
-/
import Derived.Test.YtgpmkbmobdbdoaaGreatDoorRows
import GoSem.ClaimSeven
namespace Go.Proofs.YtgpmkbmobdbdoaaGreatDoor
namespace Rows

/-- THE TIED CARD OF 'cellarerlaw08.PartsLays'. -/
def partsLaysCard : Claim7 := { stood := { row := partsLaysRow, standIns := [], harness := (true, "9d1f5ff4b9913068176fbba7bc82e56eba8f2a0ded052c962934c76ab2a3e7e8"), looks := false }, kinds := [], alts := [], laidByText := true, laidKinds := [.data, .data, .data], laidTests := true, laidLooks := .later }
def PartsLaysCardSaid : Prop := Claim7.holds Tryz.pinned (.plain (OpenSpec.ofChange partsLaysSpec)) partsLaysCard

/-- THE TIED CARD OF 'cellarerlaw08.PartsBegins'. -/
def partsBeginsCard : Claim7 := { stood := { row := partsBeginsRow, standIns := [], harness := (true, "9d1f5ff4b9913068176fbba7bc82e56eba8f2a0ded052c962934c76ab2a3e7e8"), looks := false }, kinds := [], alts := [], laidByText := true, laidKinds := [.data, .data, .data], laidTests := true, laidLooks := .later }
def PartsBeginsCardSaid : Prop := Claim7.holds Tryz.pinned (.plain (OpenSpec.ofChange partsBeginsSpec)) partsBeginsCard

/-- THE SECOND FORM's CARD OF 'cellarerlaw08.PartsLays'. -/
def partsLaysUptoCard : Claim7 := { stood := { row := partsLaysUptoRow, standIns := [], harness := (true, "9d1f5ff4b9913068176fbba7bc82e56eba8f2a0ded052c962934c76ab2a3e7e8"), looks := false }, kinds := [], alts := [], laidByText := true, laidKinds := [.data, .data, .data], laidTests := true, laidLooks := .later }
def PartsLaysUptoCardSaid : Prop := Claim7.holds Tryz.pinned (.plain (OpenSpec.upto partsLaysSpec)) partsLaysUptoCard

/-- THE SECOND FORM's CARD OF 'cellarerlaw08.PartsBegins'. -/
def partsBeginsUptoCard : Claim7 := { stood := { row := partsBeginsUptoRow, standIns := [], harness := (true, "9d1f5ff4b9913068176fbba7bc82e56eba8f2a0ded052c962934c76ab2a3e7e8"), looks := false }, kinds := [], alts := [], laidByText := true, laidKinds := [.data, .data, .data], laidTests := true, laidLooks := .later }
def PartsBeginsUptoCardSaid : Prop := Claim7.holds Tryz.pinned (.plain (OpenSpec.upto partsBeginsSpec)) partsBeginsUptoCard
end Rows
end Go.Proofs.YtgpmkbmobdbdoaaGreatDoor
