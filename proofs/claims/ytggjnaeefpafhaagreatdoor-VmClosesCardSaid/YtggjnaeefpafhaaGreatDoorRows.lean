/-
  NARROWER THAN 'FOR EVERY INPUT', by the rows' own cells (each row's printed sentence says how): VmKnown: laid · VmSound: laid · VmRefuses: laid · VmHolds: laid · VmCloses: laid · VmMemory: laid · VmKeeps: laid.
  DERIVED. THE GIVEN ROWS OF THIS SEAT. 7 by the template 'for every input the law returns true; each argument reads behind the call as it read before'; 0 by the template 'total and deterministic' (their statements: YtggjnaeefpafhaaGreatDoorTotals.lean).
  GIVEN WITH THE SEED: the statements are not yours to turn. If you find one false, say at which input.
  Laid BY PROGRAM, IN A SANDBOX (cutbox-rows.mjs): the forced cells as the released guide's own fill.sh prints them over the translation e32c88a35222e797… (all of the seat's roots in one cut). By AI agents, Wed Nov 11 2026. No macro, syntax, notation, axiom, sorry.
-/
import Derived.Test.YtggjnaeefpafhaaGreatDoorChecked
import GoSem.Claim
import GoSem.ClaimJoined
import GoSem.ClaimMapViews
import Derived.JoinedTies
import Derived.KernelRfl
namespace Go.Proofs.YtggjnaeefpafhaaGreatDoor
/- THE CELL 'sum', in the pinned program and in every row, IS THE sha256 OF THE DUMP (.gsa) THAT YtggjnaeefpafhaaGreatDoorProg.lean LOADS. Nothing in Lean hashes anything: it is a label: what it is worth is what the hold of that sum in a sandbox is worth. -/
noncomputable def Tryz.pinned : Pinned := { name := "ytggjnaeefpafhaagreatdoor", sum := "e32c88a35222e797f6ad752fa10adf04c16d5e8e083da5b1032f6f101d61d8af", checked := Tryz.checked }
namespace Rows
def none {H : Type} : Left H := { results := [], args := [] }

/- WHAT THE LISTED PACKAGE-LEVEL VARIABLES READ AS WHEN THE CALL BEGINS. Each datum BY PROGRAM (the guide's laid-datum.mjs) off the statement by which the dump's own 'gosem.cut.vars' lays the variable. In a bare row this is a premise. The card (YtggjnaeefpafhaaGreatDoorCards.lean) ties it to the program's text. -/
def laid_math_bits_deBruijn64tab {H : Type} : DataW H := .agg [.lit (.int .u8 0), .lit (.int .u8 1), .lit (.int .u8 56), .lit (.int .u8 2), .lit (.int .u8 57), .lit (.int .u8 49), .lit (.int .u8 28), .lit (.int .u8 3), .lit (.int .u8 61), .lit (.int .u8 58), .lit (.int .u8 42), .lit (.int .u8 50), .lit (.int .u8 38), .lit (.int .u8 29), .lit (.int .u8 17), .lit (.int .u8 4), .lit (.int .u8 62), .lit (.int .u8 47), .lit (.int .u8 59), .lit (.int .u8 36), .lit (.int .u8 45), .lit (.int .u8 43), .lit (.int .u8 51), .lit (.int .u8 22), .lit (.int .u8 53), .lit (.int .u8 39), .lit (.int .u8 33), .lit (.int .u8 30), .lit (.int .u8 24), .lit (.int .u8 18), .lit (.int .u8 12), .lit (.int .u8 5), .lit (.int .u8 63), .lit (.int .u8 55), .lit (.int .u8 48), .lit (.int .u8 27), .lit (.int .u8 60), .lit (.int .u8 41), .lit (.int .u8 37), .lit (.int .u8 16), .lit (.int .u8 46), .lit (.int .u8 35), .lit (.int .u8 44), .lit (.int .u8 21), .lit (.int .u8 52), .lit (.int .u8 32), .lit (.int .u8 23), .lit (.int .u8 11), .lit (.int .u8 54), .lit (.int .u8 26), .lit (.int .u8 40), .lit (.int .u8 15), .lit (.int .u8 34), .lit (.int .u8 20), .lit (.int .u8 31), .lit (.int .u8 10), .lit (.int .u8 25), .lit (.int .u8 14), .lit (.int .u8 19), .lit (.int .u8 9), .lit (.int .u8 13), .lit (.int .u8 8), .lit (.int .u8 7), .lit (.int .u8 6)]

/-- 'gantlinelaw17.VmKnown': WHATEVER THE INPUT: true; the input reads as it did. -/
def vmKnownSpec : ChangeSpec := { name := "vmKnown", fn := fun _ => fun
  | [] => { results := [.lit (.bool true)], args := [] }
  | _ => none }
def vmKnownRow : OpenClaim := { program := "ytggjnaeefpafhaagreatdoor", sum := "e32c88a35222e797f6ad752fa10adf04c16d5e8e083da5b1032f6f101d61d8af", func := "gantline/gantlinelaw17.VmKnown", spec := "vmKnown", unfollowed := true, recurses := true, named := ["math/bits.deBruijn64tab"], plainKeys := false, apart := false, laid := [("math/bits.deBruijn64tab", laid_math_bits_deBruijn64tab)] }
def VmKnownSaid : Prop := vmKnownRow.holds Tryz.pinned (OpenSpec.ofChange vmKnownSpec)

/-- ITS FALSE NEIGHBOUR: 'it returns false'. Refute it at one input. -/
def vmKnownWrong : ChangeSpec := { name := "vmKnown", fn := fun _ => fun
  | [] => { results := [.lit (.bool false)], args := [] }
  | _ => none }
def VmKnownWrongFalsely : Prop := vmKnownRow.holds Tryz.pinned (OpenSpec.ofChange vmKnownWrong)

/-- 'gantlinelaw17.VmSound': WHATEVER THE INPUT: true; the input reads as it did. -/
def vmSoundSpec : ChangeSpec := { name := "vmSound", fn := fun _ => fun
  | [d1, d2, d3] => { results := [.lit (.bool true)], args := [d1, d2, d3] }
  | _ => none }
def vmSoundRow : OpenClaim := { program := "ytggjnaeefpafhaagreatdoor", sum := "e32c88a35222e797f6ad752fa10adf04c16d5e8e083da5b1032f6f101d61d8af", func := "gantline/gantlinelaw17.VmSound", spec := "vmSound", unfollowed := true, recurses := true, named := ["math/bits.deBruijn64tab"], plainKeys := false, apart := false, laid := [("math/bits.deBruijn64tab", laid_math_bits_deBruijn64tab)] }
def VmSoundSaid : Prop := vmSoundRow.holds Tryz.pinned (OpenSpec.ofChange vmSoundSpec)

/-- ITS FALSE NEIGHBOUR: 'it returns false'. Refute it at one input. -/
def vmSoundWrong : ChangeSpec := { name := "vmSound", fn := fun _ => fun
  | [d1, d2, d3] => { results := [.lit (.bool false)], args := [d1, d2, d3] }
  | _ => none }
def VmSoundWrongFalsely : Prop := vmSoundRow.holds Tryz.pinned (OpenSpec.ofChange vmSoundWrong)

/-- 'gantlinelaw17.VmRefuses': WHATEVER THE INPUT: true; the input reads as it did. -/
def vmRefusesSpec : ChangeSpec := { name := "vmRefuses", fn := fun _ => fun
  | [d1, d2, d3, d4] => { results := [.lit (.bool true)], args := [d1, d2, d3, d4] }
  | _ => none }
def vmRefusesRow : OpenClaim := { program := "ytggjnaeefpafhaagreatdoor", sum := "e32c88a35222e797f6ad752fa10adf04c16d5e8e083da5b1032f6f101d61d8af", func := "gantline/gantlinelaw17.VmRefuses", spec := "vmRefuses", unfollowed := true, recurses := true, named := ["math/bits.deBruijn64tab"], plainKeys := false, apart := false, laid := [("math/bits.deBruijn64tab", laid_math_bits_deBruijn64tab)] }
def VmRefusesSaid : Prop := vmRefusesRow.holds Tryz.pinned (OpenSpec.ofChange vmRefusesSpec)

/-- ITS FALSE NEIGHBOUR: 'it returns false'. Refute it at one input. -/
def vmRefusesWrong : ChangeSpec := { name := "vmRefuses", fn := fun _ => fun
  | [d1, d2, d3, d4] => { results := [.lit (.bool false)], args := [d1, d2, d3, d4] }
  | _ => none }
def VmRefusesWrongFalsely : Prop := vmRefusesRow.holds Tryz.pinned (OpenSpec.ofChange vmRefusesWrong)

/-- 'gantlinelaw17.VmHolds': WHATEVER THE INPUT: true; the input reads as it did. -/
def vmHoldsSpec : ChangeSpec := { name := "vmHolds", fn := fun _ => fun
  | [d1, d2] => { results := [.lit (.bool true)], args := [d1, d2] }
  | _ => none }
def vmHoldsRow : OpenClaim := { program := "ytggjnaeefpafhaagreatdoor", sum := "e32c88a35222e797f6ad752fa10adf04c16d5e8e083da5b1032f6f101d61d8af", func := "gantline/gantlinelaw17.VmHolds", spec := "vmHolds", unfollowed := true, recurses := true, named := ["math/bits.deBruijn64tab"], plainKeys := false, apart := false, laid := [("math/bits.deBruijn64tab", laid_math_bits_deBruijn64tab)] }
def VmHoldsSaid : Prop := vmHoldsRow.holds Tryz.pinned (OpenSpec.ofChange vmHoldsSpec)

/-- ITS FALSE NEIGHBOUR: 'it returns false'. Refute it at one input. -/
def vmHoldsWrong : ChangeSpec := { name := "vmHolds", fn := fun _ => fun
  | [d1, d2] => { results := [.lit (.bool false)], args := [d1, d2] }
  | _ => none }
def VmHoldsWrongFalsely : Prop := vmHoldsRow.holds Tryz.pinned (OpenSpec.ofChange vmHoldsWrong)

/-- 'gantlinelaw17.VmCloses': WHATEVER THE INPUT: true; the input reads as it did. -/
def vmClosesSpec : ChangeSpec := { name := "vmCloses", fn := fun _ => fun
  | [d1, d2] => { results := [.lit (.bool true)], args := [d1, d2] }
  | _ => none }
def vmClosesRow : OpenClaim := { program := "ytggjnaeefpafhaagreatdoor", sum := "e32c88a35222e797f6ad752fa10adf04c16d5e8e083da5b1032f6f101d61d8af", func := "gantline/gantlinelaw17.VmCloses", spec := "vmCloses", unfollowed := true, recurses := true, named := ["math/bits.deBruijn64tab"], plainKeys := false, apart := false, laid := [("math/bits.deBruijn64tab", laid_math_bits_deBruijn64tab)] }
def VmClosesSaid : Prop := vmClosesRow.holds Tryz.pinned (OpenSpec.ofChange vmClosesSpec)

/-- ITS FALSE NEIGHBOUR: 'it returns false'. Refute it at one input. -/
def vmClosesWrong : ChangeSpec := { name := "vmCloses", fn := fun _ => fun
  | [d1, d2] => { results := [.lit (.bool false)], args := [d1, d2] }
  | _ => none }
def VmClosesWrongFalsely : Prop := vmClosesRow.holds Tryz.pinned (OpenSpec.ofChange vmClosesWrong)

/-- 'gantlinelaw17.VmMemory': WHATEVER THE INPUT: true; the input reads as it did. -/
def vmMemorySpec : ChangeSpec := { name := "vmMemory", fn := fun _ => fun
  | [d1, d2] => { results := [.lit (.bool true)], args := [d1, d2] }
  | _ => none }
def vmMemoryRow : OpenClaim := { program := "ytggjnaeefpafhaagreatdoor", sum := "e32c88a35222e797f6ad752fa10adf04c16d5e8e083da5b1032f6f101d61d8af", func := "gantline/gantlinelaw17.VmMemory", spec := "vmMemory", unfollowed := true, recurses := true, named := ["math/bits.deBruijn64tab"], plainKeys := false, apart := false, laid := [("math/bits.deBruijn64tab", laid_math_bits_deBruijn64tab)] }
def VmMemorySaid : Prop := vmMemoryRow.holds Tryz.pinned (OpenSpec.ofChange vmMemorySpec)

/-- ITS FALSE NEIGHBOUR: 'it returns false'. Refute it at one input. -/
def vmMemoryWrong : ChangeSpec := { name := "vmMemory", fn := fun _ => fun
  | [d1, d2] => { results := [.lit (.bool false)], args := [d1, d2] }
  | _ => none }
def VmMemoryWrongFalsely : Prop := vmMemoryRow.holds Tryz.pinned (OpenSpec.ofChange vmMemoryWrong)

/-- 'gantlinelaw17.VmKeeps': WHATEVER THE INPUT: true; the input reads as it did. -/
def vmKeepsSpec : ChangeSpec := { name := "vmKeeps", fn := fun _ => fun
  | [d1, d2] => { results := [.lit (.bool true)], args := [d1, d2] }
  | _ => none }
def vmKeepsRow : OpenClaim := { program := "ytggjnaeefpafhaagreatdoor", sum := "e32c88a35222e797f6ad752fa10adf04c16d5e8e083da5b1032f6f101d61d8af", func := "gantline/gantlinelaw17.VmKeeps", spec := "vmKeeps", unfollowed := true, recurses := true, named := ["math/bits.deBruijn64tab"], plainKeys := false, apart := false, laid := [("math/bits.deBruijn64tab", laid_math_bits_deBruijn64tab)] }
def VmKeepsSaid : Prop := vmKeepsRow.holds Tryz.pinned (OpenSpec.ofChange vmKeepsSpec)

/-- ITS FALSE NEIGHBOUR: 'it returns false'. Refute it at one input. -/
def vmKeepsWrong : ChangeSpec := { name := "vmKeeps", fn := fun _ => fun
  | [d1, d2] => { results := [.lit (.bool false)], args := [d1, d2] }
  | _ => none }
def VmKeepsWrongFalsely : Prop := vmKeepsRow.holds Tryz.pinned (OpenSpec.ofChange vmKeepsWrong)

/- THE SECOND FORM. 'bulk': how many values and letters a reading holds, each counted each time it is reached (what is shared counts as often as it is met; a slice's spare places count too). A statement '..UptoSaid' is the law's where the arguments, and the package variables that the reading takes, are together of bulk at most 1048576: NARROWER than '..Said'. Prove '..Said' where nothing that the law and all that it calls make is longer than what came in: it says more and counts as full. Else prove '..UptoSaid'. A law counts once. -/
mutual
def uptoBulk {H : Type} : DataW H → Nat
  | .lit (.string bytes) => bytes.length + 1
  | .lit _ => 1
  | .nil => 1
  | .ptr d => uptoBulk d + 1
  | .slice elems spare => uptoBulkAll elems + uptoBulkAll spare + 1
  | .agg parts => uptoBulkAll parts + 1
  | .iface _ d => uptoBulk d + 1
  | .map entries => uptoBulkEntries entries + 1
  | .held _ => 1
def uptoBulkAll {H : Type} : List (DataW H) → Nat
  | [] => 0
  | d :: r => uptoBulk d + uptoBulkAll r
def uptoBulkEntries {H : Type} : List (Lit × DataW H) → Nat
  | [] => 0
  | x :: r => uptoBulkEntry x + uptoBulkEntries r
def uptoBulkEntry {H : Type} : Lit × DataW H → Nat
  | (.string bytes, d) => bytes.length + uptoBulk d + 1
  | (_, d) => uptoBulk d + 1
 end
def uptoSmall : (H : Type) → List (DataW H) → Bool := fun _ ds => decide (uptoBulkAll ds ≤ 1048576)
def OpenSpec.upto (s : _root_.Go.ChangeSpec) : _root_.Go.OpenSpec := { _root_.Go.OpenSpec.ofChange s with cond := some uptoSmall }

/-- 'gantlinelaw17.VmKnown', WHERE WHAT IT READS IS OF BULK AT MOST 1048576: true; the input reads as it did. -/
def vmKnownUptoRow : OpenClaim := { program := "ytggjnaeefpafhaagreatdoor", sum := "e32c88a35222e797f6ad752fa10adf04c16d5e8e083da5b1032f6f101d61d8af", func := "gantline/gantlinelaw17.VmKnown", spec := "vmKnown", unfollowed := true, recurses := true, named := ["math/bits.deBruijn64tab"], plainKeys := false, apart := false, laid := [("math/bits.deBruijn64tab", laid_math_bits_deBruijn64tab)], narrowed := true }
def VmKnownUptoSaid : Prop := vmKnownUptoRow.holds Tryz.pinned (OpenSpec.upto vmKnownSpec)

/-- 'gantlinelaw17.VmSound', WHERE WHAT IT READS IS OF BULK AT MOST 1048576: true; the input reads as it did. -/
def vmSoundUptoRow : OpenClaim := { program := "ytggjnaeefpafhaagreatdoor", sum := "e32c88a35222e797f6ad752fa10adf04c16d5e8e083da5b1032f6f101d61d8af", func := "gantline/gantlinelaw17.VmSound", spec := "vmSound", unfollowed := true, recurses := true, named := ["math/bits.deBruijn64tab"], plainKeys := false, apart := false, laid := [("math/bits.deBruijn64tab", laid_math_bits_deBruijn64tab)], narrowed := true }
def VmSoundUptoSaid : Prop := vmSoundUptoRow.holds Tryz.pinned (OpenSpec.upto vmSoundSpec)

/-- 'gantlinelaw17.VmRefuses', WHERE WHAT IT READS IS OF BULK AT MOST 1048576: true; the input reads as it did. -/
def vmRefusesUptoRow : OpenClaim := { program := "ytggjnaeefpafhaagreatdoor", sum := "e32c88a35222e797f6ad752fa10adf04c16d5e8e083da5b1032f6f101d61d8af", func := "gantline/gantlinelaw17.VmRefuses", spec := "vmRefuses", unfollowed := true, recurses := true, named := ["math/bits.deBruijn64tab"], plainKeys := false, apart := false, laid := [("math/bits.deBruijn64tab", laid_math_bits_deBruijn64tab)], narrowed := true }
def VmRefusesUptoSaid : Prop := vmRefusesUptoRow.holds Tryz.pinned (OpenSpec.upto vmRefusesSpec)

/-- 'gantlinelaw17.VmHolds', WHERE WHAT IT READS IS OF BULK AT MOST 1048576: true; the input reads as it did. -/
def vmHoldsUptoRow : OpenClaim := { program := "ytggjnaeefpafhaagreatdoor", sum := "e32c88a35222e797f6ad752fa10adf04c16d5e8e083da5b1032f6f101d61d8af", func := "gantline/gantlinelaw17.VmHolds", spec := "vmHolds", unfollowed := true, recurses := true, named := ["math/bits.deBruijn64tab"], plainKeys := false, apart := false, laid := [("math/bits.deBruijn64tab", laid_math_bits_deBruijn64tab)], narrowed := true }
def VmHoldsUptoSaid : Prop := vmHoldsUptoRow.holds Tryz.pinned (OpenSpec.upto vmHoldsSpec)

/-- 'gantlinelaw17.VmCloses', WHERE WHAT IT READS IS OF BULK AT MOST 1048576: true; the input reads as it did. -/
def vmClosesUptoRow : OpenClaim := { program := "ytggjnaeefpafhaagreatdoor", sum := "e32c88a35222e797f6ad752fa10adf04c16d5e8e083da5b1032f6f101d61d8af", func := "gantline/gantlinelaw17.VmCloses", spec := "vmCloses", unfollowed := true, recurses := true, named := ["math/bits.deBruijn64tab"], plainKeys := false, apart := false, laid := [("math/bits.deBruijn64tab", laid_math_bits_deBruijn64tab)], narrowed := true }
def VmClosesUptoSaid : Prop := vmClosesUptoRow.holds Tryz.pinned (OpenSpec.upto vmClosesSpec)

/-- 'gantlinelaw17.VmMemory', WHERE WHAT IT READS IS OF BULK AT MOST 1048576: true; the input reads as it did. -/
def vmMemoryUptoRow : OpenClaim := { program := "ytggjnaeefpafhaagreatdoor", sum := "e32c88a35222e797f6ad752fa10adf04c16d5e8e083da5b1032f6f101d61d8af", func := "gantline/gantlinelaw17.VmMemory", spec := "vmMemory", unfollowed := true, recurses := true, named := ["math/bits.deBruijn64tab"], plainKeys := false, apart := false, laid := [("math/bits.deBruijn64tab", laid_math_bits_deBruijn64tab)], narrowed := true }
def VmMemoryUptoSaid : Prop := vmMemoryUptoRow.holds Tryz.pinned (OpenSpec.upto vmMemorySpec)

/-- 'gantlinelaw17.VmKeeps', WHERE WHAT IT READS IS OF BULK AT MOST 1048576: true; the input reads as it did. -/
def vmKeepsUptoRow : OpenClaim := { program := "ytggjnaeefpafhaagreatdoor", sum := "e32c88a35222e797f6ad752fa10adf04c16d5e8e083da5b1032f6f101d61d8af", func := "gantline/gantlinelaw17.VmKeeps", spec := "vmKeeps", unfollowed := true, recurses := true, named := ["math/bits.deBruijn64tab"], plainKeys := false, apart := false, laid := [("math/bits.deBruijn64tab", laid_math_bits_deBruijn64tab)], narrowed := true }
def VmKeepsUptoSaid : Prop := vmKeepsUptoRow.holds Tryz.pinned (OpenSpec.upto vmKeepsSpec)

end Rows
end Go.Proofs.YtggjnaeefpafhaaGreatDoor
