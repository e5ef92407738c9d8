/- The functions that RunKnown runs, checked; its run. -/
import Derived.Test.YtlmmhkcimjjakaaGreatDoorAcC
import Derived.Test.YtlmmhkcimjjakaaGreatDoorSorts
import Derived.KernelRfl
namespace Go.Proofs.YtlmmhkcimjjakaaGreatDoor
open Go.Ab
noncomputable def RunKnown_mask : Nat := 67192342265335144860332160242826318658184001200419314236178834703178597199707494672958065055354467426056
noncomputable def RunKnown_tab : Nat → Option KFun := tabK Tryz.prog [0] 345 RunKnown_mask
theorem RunKnown_ok0 : okAll Tryz.prog [0] RunKnown_mask 0 50 = true := by kernel_rfl
theorem RunKnown_ok1 : okAll Tryz.prog [0] RunKnown_mask 50 44 = true := by kernel_rfl
theorem RunKnown_ok2 : okAll Tryz.prog [0] RunKnown_mask 94 51 = true := by kernel_rfl
theorem RunKnown_ok3 : okAll Tryz.prog [0] RunKnown_mask 145 200 = true := by kernel_rfl
theorem RunKnown_tabOK : TabKOK Tryz.prog [0] RunKnown_tab := tabK_ok fun f hf hb => by
  by_cases h0 : f < 50
  · exact okAll_spec RunKnown_ok0 f (by omega) (by omega) hb
  by_cases h1 : f < 94
  · exact okAll_spec RunKnown_ok1 f (by omega) (by omega) hb
  by_cases h2 : f < 145
  · exact okAll_spec RunKnown_ok2 f (by omega) (by omega) hb
  exact okAll_spec RunKnown_ok3 f (by omega) (by omega) hb
end Go.Proofs.YtlmmhkcimjjakaaGreatDoor
