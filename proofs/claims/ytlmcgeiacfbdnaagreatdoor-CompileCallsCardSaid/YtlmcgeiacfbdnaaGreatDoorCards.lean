/-
  DERIVED. GIVEN WITH THE SEED: THE CARDS: each row of YtlmcgeiacfbdnaaGreatDoorRows.lean that lists a variable, with what it lists TIED to the program's text (the seventh form; the later family's looks); each row that meets fmt, with fmt's text TOLD by the authors' own Lean function (tested against real Go, not proved from fmt's source: count such statements apart). THE CARD IS WHAT COUNTS. Prove the row's statement (the work); the ties are given (YtlmcgeiacfbdnaaGreatDoorTie.lean); close each card by the builder's one call (the guide's Derived/Test/ToyasCard.lean, 'card_holds'). Laid BY PROGRAM, IN A SANDBOX (cutbox-door.mjs). By AI agents, Wed Nov 11 2026. No macro, syntax, notation, axiom, sorry.
-/
import Derived.Test.YtlmcgeiacfbdnaaGreatDoorRows
import GoSem.ClaimSeven
namespace Go.Proofs.YtlmcgeiacfbdnaaGreatDoor
namespace Rows

/-- THE TIED CARD OF 'gantlinelaw25.CompileLoops'. -/
def compileLoopsCard : Claim7 := { stood := { row := compileLoopsRow, standIns := [], harness := (true, "40be974198051bc76e37d03d47bec7736c1d287a26e465d2e29eb60cde98883b"), looks := true }, kinds := [], alts := [], laidByText := true, laidKinds := [.sentinel, .sentinel, .data, .data, .data], laidTests := true, laidLooks := .later }
def CompileLoopsCardSaid : Prop := Claim7.holds Tryz.pinned (.plain (OpenSpec.ofChange compileLoopsSpec)) compileLoopsCard

/-- THE TIED CARD OF 'gantlinelaw25.CompileCalls'. -/
def compileCallsCard : Claim7 := { stood := { row := compileCallsRow, standIns := [], harness := (true, "40be974198051bc76e37d03d47bec7736c1d287a26e465d2e29eb60cde98883b"), looks := true }, kinds := [], alts := [], laidByText := true, laidKinds := [.sentinel, .sentinel, .data, .data, .data], laidTests := true, laidLooks := .later }
def CompileCallsCardSaid : Prop := Claim7.holds Tryz.pinned (.plain (OpenSpec.ofChange compileCallsSpec)) compileCallsCard

/-- THE SECOND FORM's CARD OF 'gantlinelaw25.CompileLoops'. -/
def compileLoopsUptoCard : Claim7 := { stood := { row := compileLoopsUptoRow, standIns := [], harness := (true, "40be974198051bc76e37d03d47bec7736c1d287a26e465d2e29eb60cde98883b"), looks := true }, kinds := [], alts := [], laidByText := true, laidKinds := [.sentinel, .sentinel, .data, .data, .data], laidTests := true, laidLooks := .later }
def CompileLoopsUptoCardSaid : Prop := Claim7.holds Tryz.pinned (.plain (OpenSpec.upto compileLoopsSpec)) compileLoopsUptoCard

/-- THE SECOND FORM's CARD OF 'gantlinelaw25.CompileCalls'. -/
def compileCallsUptoCard : Claim7 := { stood := { row := compileCallsUptoRow, standIns := [], harness := (true, "40be974198051bc76e37d03d47bec7736c1d287a26e465d2e29eb60cde98883b"), looks := true }, kinds := [], alts := [], laidByText := true, laidKinds := [.sentinel, .sentinel, .data, .data, .data], laidTests := true, laidLooks := .later }
def CompileCallsUptoCardSaid : Prop := Claim7.holds Tryz.pinned (.plain (OpenSpec.upto compileCallsSpec)) compileCallsUptoCard
end Rows
end Go.Proofs.YtlmcgeiacfbdnaaGreatDoor
