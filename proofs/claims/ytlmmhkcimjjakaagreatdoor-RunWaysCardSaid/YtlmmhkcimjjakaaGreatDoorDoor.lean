/- The world in which a call of this seat begins. -/
import Derived.Test.YtlmmhkcimjjakaaGreatDoorAbU
import Derived.Test.YtlmmhkcimjjakaaGreatDoorSorts
import Derived.Test.YtlmmhkcimjjakaaGreatDoorRows
import Derived.ChangeSame
import Derived.ChangeVars
import Derived.JoinedOf
import Derived.RowKit
import Derived.ProofKit
import Derived.LaidMore
import Derived.LaidLaws
import Derived.OpenShut
import Derived.Stop.Joined
namespace Go.Proofs.YtlmmhkcimjjakaaGreatDoor
open Go.ChangeShapes Go.WideShapes Go.RowKit Go.Ab

theorem own : ownKnob Tryz.prog.godebug = none := by kernel_rfl
theorem gTab : Tryz.prog.globalNamed "math/bits.deBruijn64tab" = some 0 := by kernel_rfl
theorem tTab : ∃ t, (Tryz.prog.globals[0]?).map (·.type) = some t ∧ ∃ e, Tryz.prog.underlying t = some (.array 64 e) ∧ Tryz.prog.underlying e = some (.int .u8) ∧ Tryz.prog.cellsOf e = 1 := by
  exact ⟨379, by kernel_rfl, 5, by kernel_rfl, by kernel_rfl, by kernel_rfl⟩
theorem mixed : Tryz.prog.follows .mixedOrders = true := by kernel_rfl

def laidOne : List (String × DataW Unit) := [("math/bits.deBruijn64tab", Rows.laid_math_bits_deBruijn64tab)]

/-- What the condition gives. -/
theorem of_laid {W : World} (h : laidMetH Tryz.prog laidOne W) : ∃ k, HR W.heap.size (tabR k) (tabH bruijn) W ∧ Gl [0] (tabR k) ∧ ∀ j, ¬ Owns (tabR k) (tabH bruijn) j := by
  rw [MakeChecks.laidMetH_plain _ _ _ (by kernel_rfl)] at h
  obtain ⟨ps, ⟨g0, t0, cs0, f0, p0, q0, hg0, ht0, hv0, hd0, _, _⟩, _, _⟩ := h
  obtain rfl := Option.some.inj (gTab.symm.trans hg0)
  obtain ⟨t, ht, e, hte, hee, hce⟩ := tTab
  obtain rfl := Option.some.inj (ht.symm.trans ht0)
  have hcells := bytes_of_trod (l := bruijn) hte hee hce hd0
  have hW : ∃ c el fr, W.heap[0]? = some (.cells c el fr) ∧ c = cs0 := by
    unfold World.var? at hv0
    rw [gTab] at hv0
    simp only [Option.bind_some] at hv0
    split at hv0
    · rename_i cs el fr hb
      exact ⟨cs, el, fr, hb, Option.some.inj hv0⟩
    · cases hv0
  obtain ⟨c, el, fr, hb, rfl⟩ := hW
  exact ⟨c.size, tab_HR hb fun i n hi => by simpa using hcells i n hi⟩

/-- The door's own heap meets the condition. -/
theorem door_met (os : Os) (args : Array Value) : laidMetH Tryz.prog laidOne ((World.doorLaid Tryz.prog 400 os).forCall (fun _ _ => 0) ⟨#[], args, []⟩).memory :=
  laidMetH_of_parts3 (fuel := 8) (laidMet_of_run' 8 (by kernel_rfl) (by kernel_rfl)) (by kernel_rfl) (by kernel_rfl)

end Go.Proofs.YtlmmhkcimjjakaaGreatDoor
