/-
  DERIVED. GIVEN WITH THE SEED: THE CARDS: each row of YtgmcjcgnkdomnaaGreatDoorRows.lean that lists a variable, with what it lists TIED to the program's text (the seventh form; the later family's looks); each row that meets fmt, with fmt's text TOLD by the authors' own Lean function (tested against real Go, not proved from fmt's source: count such statements apart). THE CARD IS WHAT COUNTS. Prove the row's statement (the work); the ties are given (YtgmcjcgnkdomnaaGreatDoorTie.lean); close each card by the builder's one call (the guide's Derived/Test/ToyasCard.lean, 'card_holds'). Laid BY PROGRAM, IN A SANDBOX (cutbox-door.mjs). By AI agents, Wed Nov 11 2026. No macro, syntax, notation, axiom, sorry.
-/
import Derived.Test.YtgmcjcgnkdomnaaGreatDoorRows
import GoSem.ClaimSeven
namespace Go.Proofs.YtgmcjcgnkdomnaaGreatDoor
namespace Rows

/-- THE TIED CARD OF 'gantlinelaw23.LowerKnown'. -/
def lowerKnownCard : Claim7 := { stood := { row := lowerKnownRow, standIns := [], harness := (true, "6965e855b4c88ce02bf0c28b548b1b8d9b657ad40fe5cb6a9418e3da97749dc7"), looks := true }, kinds := [], alts := [], laidByText := true, laidKinds := [.data, .data, .data, .sentinel, .sentinel], laidTests := true, laidLooks := .later }
def LowerKnownCardSaid : Prop := Claim7.holds Tryz.pinned (.plain (OpenSpec.ofChange lowerKnownSpec)) lowerKnownCard

/-- THE SECOND FORM's CARD OF 'gantlinelaw23.LowerKnown'. -/
def lowerKnownUptoCard : Claim7 := { stood := { row := lowerKnownUptoRow, standIns := [], harness := (true, "6965e855b4c88ce02bf0c28b548b1b8d9b657ad40fe5cb6a9418e3da97749dc7"), looks := true }, kinds := [], alts := [], laidByText := true, laidKinds := [.data, .data, .data, .sentinel, .sentinel], laidTests := true, laidLooks := .later }
def LowerKnownUptoCardSaid : Prop := Claim7.holds Tryz.pinned (.plain (OpenSpec.upto lowerKnownSpec)) lowerKnownUptoCard
end Rows
end Go.Proofs.YtgmcjcgnkdomnaaGreatDoor
