/-
  DERIVED. GIVEN WITH THE SEED: THE CARDS: each row of YtlmmhkcimjjakaaGreatDoorRows.lean that lists a variable, with what it lists TIED to the program's text (the seventh form; the later family's looks); each row that meets fmt, with fmt's text TOLD by the authors' own Lean function (tested against real Go, not proved from fmt's source: count such statements apart). THE CARD IS WHAT COUNTS. Prove the row's statement (the work); the ties are given (YtlmmhkcimjjakaaGreatDoorTie.lean); close each card by the builder's one call (the guide's Derived/Test/ToyasCard.lean, 'card_holds'). Laid BY PROGRAM, IN A SANDBOX (cutbox-door.mjs). By AI agents, Wed Nov 11 2026. No macro, syntax, notation, axiom, sorry.
-/
import Derived.Test.YtlmmhkcimjjakaaGreatDoorRows
import GoSem.ClaimSeven
namespace Go.Proofs.YtlmmhkcimjjakaaGreatDoor
namespace Rows

/-- THE TIED CARD OF 'gantlinelaw18.RunKnown'. -/
def runKnownCard : Claim7 := { stood := { row := runKnownRow, standIns := [], harness := (true, "7409fa48daaa040c0bf18daa7eefd3bb7a89caa2bdad2a8a901532cf6415b402"), looks := false }, kinds := [], alts := [], laidByText := true, laidKinds := [.data], laidTests := true, laidLooks := .later }
def RunKnownCardSaid : Prop := Claim7.holds Tryz.pinned (.plain (OpenSpec.ofChange runKnownSpec)) runKnownCard

/-- THE TIED CARD OF 'gantlinelaw18.RunBegins'. -/
def runBeginsCard : Claim7 := { stood := { row := runBeginsRow, standIns := [], harness := (true, "7409fa48daaa040c0bf18daa7eefd3bb7a89caa2bdad2a8a901532cf6415b402"), looks := false }, kinds := [], alts := [], laidByText := true, laidKinds := [.data], laidTests := true, laidLooks := .later }
def RunBeginsCardSaid : Prop := Claim7.holds Tryz.pinned (.plain (OpenSpec.ofChange runBeginsSpec)) runBeginsCard

/-- THE TIED CARD OF 'gantlinelaw18.RunSigns'. -/
def runSignsCard : Claim7 := { stood := { row := runSignsRow, standIns := [], harness := (true, "7409fa48daaa040c0bf18daa7eefd3bb7a89caa2bdad2a8a901532cf6415b402"), looks := false }, kinds := [], alts := [], laidByText := true, laidKinds := [.data], laidTests := true, laidLooks := .later }
def RunSignsCardSaid : Prop := Claim7.holds Tryz.pinned (.plain (OpenSpec.ofChange runSignsSpec)) runSignsCard

/-- THE TIED CARD OF 'gantlinelaw18.RunWays'. -/
def runWaysCard : Claim7 := { stood := { row := runWaysRow, standIns := [], harness := (true, "7409fa48daaa040c0bf18daa7eefd3bb7a89caa2bdad2a8a901532cf6415b402"), looks := false }, kinds := [], alts := [], laidByText := true, laidKinds := [.data], laidTests := true, laidLooks := .later }
def RunWaysCardSaid : Prop := Claim7.holds Tryz.pinned (.plain (OpenSpec.ofChange runWaysSpec)) runWaysCard

/-- THE TIED CARD OF 'gantlinelaw18.RunLags'. -/
def runLagsCard : Claim7 := { stood := { row := runLagsRow, standIns := [], harness := (true, "7409fa48daaa040c0bf18daa7eefd3bb7a89caa2bdad2a8a901532cf6415b402"), looks := false }, kinds := [], alts := [], laidByText := true, laidKinds := [.data], laidTests := true, laidLooks := .later }
def RunLagsCardSaid : Prop := Claim7.holds Tryz.pinned (.plain (OpenSpec.ofChange runLagsSpec)) runLagsCard

/-- THE SECOND FORM's CARD OF 'gantlinelaw18.RunKnown'. -/
def runKnownUptoCard : Claim7 := { stood := { row := runKnownUptoRow, standIns := [], harness := (true, "7409fa48daaa040c0bf18daa7eefd3bb7a89caa2bdad2a8a901532cf6415b402"), looks := false }, kinds := [], alts := [], laidByText := true, laidKinds := [.data], laidTests := true, laidLooks := .later }
def RunKnownUptoCardSaid : Prop := Claim7.holds Tryz.pinned (.plain (OpenSpec.upto runKnownSpec)) runKnownUptoCard

/-- THE SECOND FORM's CARD OF 'gantlinelaw18.RunBegins'. -/
def runBeginsUptoCard : Claim7 := { stood := { row := runBeginsUptoRow, standIns := [], harness := (true, "7409fa48daaa040c0bf18daa7eefd3bb7a89caa2bdad2a8a901532cf6415b402"), looks := false }, kinds := [], alts := [], laidByText := true, laidKinds := [.data], laidTests := true, laidLooks := .later }
def RunBeginsUptoCardSaid : Prop := Claim7.holds Tryz.pinned (.plain (OpenSpec.upto runBeginsSpec)) runBeginsUptoCard

/-- THE SECOND FORM's CARD OF 'gantlinelaw18.RunSigns'. -/
def runSignsUptoCard : Claim7 := { stood := { row := runSignsUptoRow, standIns := [], harness := (true, "7409fa48daaa040c0bf18daa7eefd3bb7a89caa2bdad2a8a901532cf6415b402"), looks := false }, kinds := [], alts := [], laidByText := true, laidKinds := [.data], laidTests := true, laidLooks := .later }
def RunSignsUptoCardSaid : Prop := Claim7.holds Tryz.pinned (.plain (OpenSpec.upto runSignsSpec)) runSignsUptoCard

/-- THE SECOND FORM's CARD OF 'gantlinelaw18.RunWays'. -/
def runWaysUptoCard : Claim7 := { stood := { row := runWaysUptoRow, standIns := [], harness := (true, "7409fa48daaa040c0bf18daa7eefd3bb7a89caa2bdad2a8a901532cf6415b402"), looks := false }, kinds := [], alts := [], laidByText := true, laidKinds := [.data], laidTests := true, laidLooks := .later }
def RunWaysUptoCardSaid : Prop := Claim7.holds Tryz.pinned (.plain (OpenSpec.upto runWaysSpec)) runWaysUptoCard

/-- THE SECOND FORM's CARD OF 'gantlinelaw18.RunLags'. -/
def runLagsUptoCard : Claim7 := { stood := { row := runLagsUptoRow, standIns := [], harness := (true, "7409fa48daaa040c0bf18daa7eefd3bb7a89caa2bdad2a8a901532cf6415b402"), looks := false }, kinds := [], alts := [], laidByText := true, laidKinds := [.data], laidTests := true, laidLooks := .later }
def RunLagsUptoCardSaid : Prop := Claim7.holds Tryz.pinned (.plain (OpenSpec.upto runLagsSpec)) runLagsUptoCard
end Rows
end Go.Proofs.YtlmmhkcimjjakaaGreatDoor
