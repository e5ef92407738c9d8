/- An empty heap; no function is leaned on. -/
import Derived.Test.YtgmcjcgnkdomnaaGreatDoorAbU
import Derived.Test.YtgmcjcgnkdomnaaGreatDoorProg
namespace Go.Proofs.YtgmcjcgnkdomnaaGreatDoor
open Go.Ab

noncomputable def prims : Prims := fun _ => none
theorem prims_ok (base : Nat) (G : List Nat) : PrimOK Tryz.prog base G prims := by
  intro f args H v H' h
  unfold prims at h
  cases h

noncomputable def emptyH : AHeap := { n := 0, t := Tr.ofList [] }
theorem empty_HR (W : World) : HR W.heap.size (fun _ => none) emptyH W := {
  full := Tr.full_ofList []
  low := Nat.le_refl _
  dom := fun _ _ e => by cases e
  obj := fun _ _ _ e => by cases e
  apart := fun _ _ _ _ _ _ e => by cases e
  }
theorem empty_G : Gl [] (fun _ => none) := fun g hg => by simp at hg
theorem empty_no (k : Nat) : ¬ Owns (fun _ => none) emptyH k := fun ⟨_, _, _, e, _⟩ => by cases e

end Go.Proofs.YtgmcjcgnkdomnaaGreatDoor
