/-
  DERIVED. GIVEN WITH THE SEED: THE CARDS: each row of YtcolbcpeialmhaaGreatDoorRows.lean that lists a variable, with what it lists TIED to the program's text (the seventh form; the later family's looks); each row that meets fmt, with fmt's text TOLD by the authors' own Lean function (tested against real Go, not proved from fmt's source: count such statements apart). THE CARD IS WHAT COUNTS. Prove the row's statement (the work); the ties are given (YtcolbcpeialmhaaGreatDoorTie.lean); close each card by the builder's one call (the guide's Derived/Test/ToyasCard.lean, 'card_holds'). Laid BY PROGRAM, IN A SANDBOX (cutbox-door.mjs). By AI agents, Wed Nov 11 2026. No macro, syntax, notation, axiom, sorry.
-/
import Derived.Test.YtcolbcpeialmhaaGreatDoorRows
import GoSem.ClaimSeven
namespace Go.Proofs.YtcolbcpeialmhaaGreatDoor
namespace Rows

/-- THE TIED CARD OF 'gantlinelaw25.CompileOrder'. -/
def compileOrderCard : Claim7 := { stood := { row := compileOrderRow, standIns := [], harness := (true, "46ce3697f7225a6e1ab7f895607f3140ae30b82fbbd1d0769c253943e1716b1e"), looks := true }, kinds := [], alts := [], laidByText := true, laidKinds := [.sentinel, .sentinel, .data, .data, .data], laidTests := true, laidLooks := .later }
def CompileOrderCardSaid : Prop := Claim7.holds Tryz.pinned (.plain (OpenSpec.ofChange compileOrderSpec)) compileOrderCard

/-- THE TIED CARD OF 'gantlinelaw25.CompileChannels'. -/
def compileChannelsCard : Claim7 := { stood := { row := compileChannelsRow, standIns := [], harness := (true, "46ce3697f7225a6e1ab7f895607f3140ae30b82fbbd1d0769c253943e1716b1e"), looks := true }, kinds := [], alts := [], laidByText := true, laidKinds := [.sentinel, .sentinel, .data, .data, .data], laidTests := true, laidLooks := .later }
def CompileChannelsCardSaid : Prop := Claim7.holds Tryz.pinned (.plain (OpenSpec.ofChange compileChannelsSpec)) compileChannelsCard

/-- THE TIED CARD OF 'gantlinelaw25.CompileSelect'. -/
def compileSelectCard : Claim7 := { stood := { row := compileSelectRow, standIns := [], harness := (true, "46ce3697f7225a6e1ab7f895607f3140ae30b82fbbd1d0769c253943e1716b1e"), looks := true }, kinds := [], alts := [], laidByText := true, laidKinds := [.sentinel, .sentinel, .data, .data, .data], laidTests := true, laidLooks := .later }
def CompileSelectCardSaid : Prop := Claim7.holds Tryz.pinned (.plain (OpenSpec.ofChange compileSelectSpec)) compileSelectCard

/-- THE SECOND FORM's CARD OF 'gantlinelaw25.CompileOrder'. -/
def compileOrderUptoCard : Claim7 := { stood := { row := compileOrderUptoRow, standIns := [], harness := (true, "46ce3697f7225a6e1ab7f895607f3140ae30b82fbbd1d0769c253943e1716b1e"), looks := true }, kinds := [], alts := [], laidByText := true, laidKinds := [.sentinel, .sentinel, .data, .data, .data], laidTests := true, laidLooks := .later }
def CompileOrderUptoCardSaid : Prop := Claim7.holds Tryz.pinned (.plain (OpenSpec.upto compileOrderSpec)) compileOrderUptoCard

/-- THE SECOND FORM's CARD OF 'gantlinelaw25.CompileChannels'. -/
def compileChannelsUptoCard : Claim7 := { stood := { row := compileChannelsUptoRow, standIns := [], harness := (true, "46ce3697f7225a6e1ab7f895607f3140ae30b82fbbd1d0769c253943e1716b1e"), looks := true }, kinds := [], alts := [], laidByText := true, laidKinds := [.sentinel, .sentinel, .data, .data, .data], laidTests := true, laidLooks := .later }
def CompileChannelsUptoCardSaid : Prop := Claim7.holds Tryz.pinned (.plain (OpenSpec.upto compileChannelsSpec)) compileChannelsUptoCard

/-- THE SECOND FORM's CARD OF 'gantlinelaw25.CompileSelect'. -/
def compileSelectUptoCard : Claim7 := { stood := { row := compileSelectUptoRow, standIns := [], harness := (true, "46ce3697f7225a6e1ab7f895607f3140ae30b82fbbd1d0769c253943e1716b1e"), looks := true }, kinds := [], alts := [], laidByText := true, laidKinds := [.sentinel, .sentinel, .data, .data, .data], laidTests := true, laidLooks := .later }
def CompileSelectUptoCardSaid : Prop := Claim7.holds Tryz.pinned (.plain (OpenSpec.upto compileSelectSpec)) compileSelectUptoCard
end Rows
end Go.Proofs.YtcolbcpeialmhaaGreatDoor
