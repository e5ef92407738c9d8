/-
  DERIVED. GIVEN WITH THE SEED: THE CARDS: each row of YtggjnaeefpafhaaGreatDoorRows.lean that lists a variable, with what it lists TIED to the program's text (the seventh form; the later family's looks); each row that meets fmt, with fmt's text TOLD by the authors' own Lean function (tested against real Go, not proved from fmt's source: count such statements apart). THE CARD IS WHAT COUNTS. Prove the row's statement (the work); the ties are given (YtggjnaeefpafhaaGreatDoorTie.lean); close each card by the builder's one call (the guide's Derived/Test/ToyasCard.lean, 'card_holds'). Laid BY PROGRAM, IN A SANDBOX (cutbox-door.mjs). By AI agents, Wed Nov 11 2026. No macro, syntax, notation, axiom, sorry.
-/
import Derived.Test.YtggjnaeefpafhaaGreatDoorRows
import GoSem.ClaimSeven
namespace Go.Proofs.YtggjnaeefpafhaaGreatDoor
namespace Rows

/-- THE TIED CARD OF 'gantlinelaw17.VmKnown'. -/
def vmKnownCard : Claim7 := { stood := { row := vmKnownRow, standIns := [], harness := (true, "616319d3b98bae316019638b65840a288338b59c3c9bce68849383b5e09b58b3"), looks := false }, kinds := [], alts := [], laidByText := true, laidKinds := [.data], laidTests := true, laidLooks := .later }
def VmKnownCardSaid : Prop := Claim7.holds Tryz.pinned (.plain (OpenSpec.ofChange vmKnownSpec)) vmKnownCard

/-- THE TIED CARD OF 'gantlinelaw17.VmSound'. -/
def vmSoundCard : Claim7 := { stood := { row := vmSoundRow, standIns := [], harness := (true, "616319d3b98bae316019638b65840a288338b59c3c9bce68849383b5e09b58b3"), looks := false }, kinds := [], alts := [], laidByText := true, laidKinds := [.data], laidTests := true, laidLooks := .later }
def VmSoundCardSaid : Prop := Claim7.holds Tryz.pinned (.plain (OpenSpec.ofChange vmSoundSpec)) vmSoundCard

/-- THE TIED CARD OF 'gantlinelaw17.VmRefuses'. -/
def vmRefusesCard : Claim7 := { stood := { row := vmRefusesRow, standIns := [], harness := (true, "616319d3b98bae316019638b65840a288338b59c3c9bce68849383b5e09b58b3"), looks := false }, kinds := [], alts := [], laidByText := true, laidKinds := [.data], laidTests := true, laidLooks := .later }
def VmRefusesCardSaid : Prop := Claim7.holds Tryz.pinned (.plain (OpenSpec.ofChange vmRefusesSpec)) vmRefusesCard

/-- THE TIED CARD OF 'gantlinelaw17.VmHolds'. -/
def vmHoldsCard : Claim7 := { stood := { row := vmHoldsRow, standIns := [], harness := (true, "616319d3b98bae316019638b65840a288338b59c3c9bce68849383b5e09b58b3"), looks := false }, kinds := [], alts := [], laidByText := true, laidKinds := [.data], laidTests := true, laidLooks := .later }
def VmHoldsCardSaid : Prop := Claim7.holds Tryz.pinned (.plain (OpenSpec.ofChange vmHoldsSpec)) vmHoldsCard

/-- THE TIED CARD OF 'gantlinelaw17.VmCloses'. -/
def vmClosesCard : Claim7 := { stood := { row := vmClosesRow, standIns := [], harness := (true, "616319d3b98bae316019638b65840a288338b59c3c9bce68849383b5e09b58b3"), looks := false }, kinds := [], alts := [], laidByText := true, laidKinds := [.data], laidTests := true, laidLooks := .later }
def VmClosesCardSaid : Prop := Claim7.holds Tryz.pinned (.plain (OpenSpec.ofChange vmClosesSpec)) vmClosesCard

/-- THE TIED CARD OF 'gantlinelaw17.VmMemory'. -/
def vmMemoryCard : Claim7 := { stood := { row := vmMemoryRow, standIns := [], harness := (true, "616319d3b98bae316019638b65840a288338b59c3c9bce68849383b5e09b58b3"), looks := false }, kinds := [], alts := [], laidByText := true, laidKinds := [.data], laidTests := true, laidLooks := .later }
def VmMemoryCardSaid : Prop := Claim7.holds Tryz.pinned (.plain (OpenSpec.ofChange vmMemorySpec)) vmMemoryCard

/-- THE TIED CARD OF 'gantlinelaw17.VmKeeps'. -/
def vmKeepsCard : Claim7 := { stood := { row := vmKeepsRow, standIns := [], harness := (true, "616319d3b98bae316019638b65840a288338b59c3c9bce68849383b5e09b58b3"), looks := false }, kinds := [], alts := [], laidByText := true, laidKinds := [.data], laidTests := true, laidLooks := .later }
def VmKeepsCardSaid : Prop := Claim7.holds Tryz.pinned (.plain (OpenSpec.ofChange vmKeepsSpec)) vmKeepsCard

/-- THE SECOND FORM's CARD OF 'gantlinelaw17.VmKnown'. -/
def vmKnownUptoCard : Claim7 := { stood := { row := vmKnownUptoRow, standIns := [], harness := (true, "616319d3b98bae316019638b65840a288338b59c3c9bce68849383b5e09b58b3"), looks := false }, kinds := [], alts := [], laidByText := true, laidKinds := [.data], laidTests := true, laidLooks := .later }
def VmKnownUptoCardSaid : Prop := Claim7.holds Tryz.pinned (.plain (OpenSpec.upto vmKnownSpec)) vmKnownUptoCard

/-- THE SECOND FORM's CARD OF 'gantlinelaw17.VmSound'. -/
def vmSoundUptoCard : Claim7 := { stood := { row := vmSoundUptoRow, standIns := [], harness := (true, "616319d3b98bae316019638b65840a288338b59c3c9bce68849383b5e09b58b3"), looks := false }, kinds := [], alts := [], laidByText := true, laidKinds := [.data], laidTests := true, laidLooks := .later }
def VmSoundUptoCardSaid : Prop := Claim7.holds Tryz.pinned (.plain (OpenSpec.upto vmSoundSpec)) vmSoundUptoCard

/-- THE SECOND FORM's CARD OF 'gantlinelaw17.VmRefuses'. -/
def vmRefusesUptoCard : Claim7 := { stood := { row := vmRefusesUptoRow, standIns := [], harness := (true, "616319d3b98bae316019638b65840a288338b59c3c9bce68849383b5e09b58b3"), looks := false }, kinds := [], alts := [], laidByText := true, laidKinds := [.data], laidTests := true, laidLooks := .later }
def VmRefusesUptoCardSaid : Prop := Claim7.holds Tryz.pinned (.plain (OpenSpec.upto vmRefusesSpec)) vmRefusesUptoCard

/-- THE SECOND FORM's CARD OF 'gantlinelaw17.VmHolds'. -/
def vmHoldsUptoCard : Claim7 := { stood := { row := vmHoldsUptoRow, standIns := [], harness := (true, "616319d3b98bae316019638b65840a288338b59c3c9bce68849383b5e09b58b3"), looks := false }, kinds := [], alts := [], laidByText := true, laidKinds := [.data], laidTests := true, laidLooks := .later }
def VmHoldsUptoCardSaid : Prop := Claim7.holds Tryz.pinned (.plain (OpenSpec.upto vmHoldsSpec)) vmHoldsUptoCard

/-- THE SECOND FORM's CARD OF 'gantlinelaw17.VmCloses'. -/
def vmClosesUptoCard : Claim7 := { stood := { row := vmClosesUptoRow, standIns := [], harness := (true, "616319d3b98bae316019638b65840a288338b59c3c9bce68849383b5e09b58b3"), looks := false }, kinds := [], alts := [], laidByText := true, laidKinds := [.data], laidTests := true, laidLooks := .later }
def VmClosesUptoCardSaid : Prop := Claim7.holds Tryz.pinned (.plain (OpenSpec.upto vmClosesSpec)) vmClosesUptoCard

/-- THE SECOND FORM's CARD OF 'gantlinelaw17.VmMemory'. -/
def vmMemoryUptoCard : Claim7 := { stood := { row := vmMemoryUptoRow, standIns := [], harness := (true, "616319d3b98bae316019638b65840a288338b59c3c9bce68849383b5e09b58b3"), looks := false }, kinds := [], alts := [], laidByText := true, laidKinds := [.data], laidTests := true, laidLooks := .later }
def VmMemoryUptoCardSaid : Prop := Claim7.holds Tryz.pinned (.plain (OpenSpec.upto vmMemorySpec)) vmMemoryUptoCard

/-- THE SECOND FORM's CARD OF 'gantlinelaw17.VmKeeps'. -/
def vmKeepsUptoCard : Claim7 := { stood := { row := vmKeepsUptoRow, standIns := [], harness := (true, "616319d3b98bae316019638b65840a288338b59c3c9bce68849383b5e09b58b3"), looks := false }, kinds := [], alts := [], laidByText := true, laidKinds := [.data], laidTests := true, laidLooks := .later }
def VmKeepsUptoCardSaid : Prop := Claim7.holds Tryz.pinned (.plain (OpenSpec.upto vmKeepsSpec)) vmKeepsUptoCard
end Rows
end Go.Proofs.YtggjnaeefpafhaaGreatDoor
