/-
  DERIVED. GIVEN WITH THE SEED: THE CARDS: each row of YtdccenbljfanpaaGreatDoorRows.lean that lists a variable, with what it lists TIED to the program's text (the seventh form; the later family's looks); each row that meets fmt, with fmt's text TOLD by the authors' own Lean function (tested against real Go, not proved from fmt's source: count such statements apart). THE CARD IS WHAT COUNTS. Prove the row's statement (the work); the ties are given (YtdccenbljfanpaaGreatDoorTie.lean); close each card by the builder's one call (the guide's Derived/Test/ToyasCard.lean, 'card_holds'). Laid BY PROGRAM, IN A SANDBOX (cutbox-door.mjs). By AI agents, Wed Nov 11 2026. No macro, syntax, notation, axiom, sorry.
-/
import Derived.Test.YtdccenbljfanpaaGreatDoorRows
import GoSem.ClaimSeven
namespace Go.Proofs.YtdccenbljfanpaaGreatDoor
namespace Rows

/-- THE TIED CARD OF 'gantlinelaw26.TraceKnown'. -/
def traceKnownCard : Claim7 := { stood := { row := traceKnownRow, standIns := [], harness := (true, "2817a2d4eb5d1cb8ca7f18b094bd441ca32eba3842ec92eba2523f053a9b036f"), looks := false }, kinds := [], alts := [], laidByText := true, laidKinds := [.data, .data, .data], laidTests := true, laidLooks := .later }
def TraceKnownCardSaid : Prop := Claim7.holds Tryz.pinned (.plain (OpenSpec.ofChange traceKnownSpec)) traceKnownCard

/-- THE TIED CARD OF 'gantlinelaw26.TraceShows'. -/
def traceShowsCard : Claim7 := { stood := { row := traceShowsRow, standIns := [], harness := (true, "2817a2d4eb5d1cb8ca7f18b094bd441ca32eba3842ec92eba2523f053a9b036f"), looks := false }, kinds := [], alts := [], laidByText := true, laidKinds := [.data, .data, .data], laidTests := true, laidLooks := .later }
def TraceShowsCardSaid : Prop := Claim7.holds Tryz.pinned (.plain (OpenSpec.ofChange traceShowsSpec)) traceShowsCard

/-- THE SECOND FORM's CARD OF 'gantlinelaw26.TraceKnown'. -/
def traceKnownUptoCard : Claim7 := { stood := { row := traceKnownUptoRow, standIns := [], harness := (true, "2817a2d4eb5d1cb8ca7f18b094bd441ca32eba3842ec92eba2523f053a9b036f"), looks := false }, kinds := [], alts := [], laidByText := true, laidKinds := [.data, .data, .data], laidTests := true, laidLooks := .later }
def TraceKnownUptoCardSaid : Prop := Claim7.holds Tryz.pinned (.plain (OpenSpec.upto traceKnownSpec)) traceKnownUptoCard

/-- THE SECOND FORM's CARD OF 'gantlinelaw26.TraceShows'. -/
def traceShowsUptoCard : Claim7 := { stood := { row := traceShowsUptoRow, standIns := [], harness := (true, "2817a2d4eb5d1cb8ca7f18b094bd441ca32eba3842ec92eba2523f053a9b036f"), looks := false }, kinds := [], alts := [], laidByText := true, laidKinds := [.data, .data, .data], laidTests := true, laidLooks := .later }
def TraceShowsUptoCardSaid : Prop := Claim7.holds Tryz.pinned (.plain (OpenSpec.upto traceShowsSpec)) traceShowsUptoCard
end Rows
end Go.Proofs.YtdccenbljfanpaaGreatDoor
