/- slices.Sorted of a map's keys, at this program. -/
import Derived.Test.YtcolbcpeialmhaaGreatDoorA2
import Derived.Test.YtcolbcpeialmhaaGreatDoorShelf
import Derived.KernelRfl
namespace Go.Proofs.YtcolbcpeialmhaaGreatDoor
open Go.RowKit Go.Maps Go.Sort Go.Shelf Go.Ab
theorem G5 (m : Nat) : AnyZI.SortsIn Tryz.prog Tryz.sortedA_ren Fence.wide m :=
 ⟨fun blk off cap ss W hH hblk hsz => callsIn_wide.2 (AnyM.slices_Sort_int Tryz.sortA blk off cap ss W hH hblk hsz),
  fun p cap W => callsIn_wide.2 (AnyM.slices_Sort_int_none Tryz.sortA p cap W)⟩
theorem keysA : SortsKeys Tryz.prog 245 353 3 3 := {
 call := ⟨Tryz.f245, Tryz.func245, by kernel_rfl, by kernel_rfl⟩
 key := Tryz.underlying3
 maps b nn D0 R W Bm hBm hcell hown hmax hbytes := by
  have hseq : SeqGives Fence.wide 2 Tryz.prog 353 #[.pointer (some ⟨Bm, 0, none⟩)] encZ (fun ss => ss.Perm (intKeys D0)) (Maps.size D0) W :=
   AnyZI.keys_gives (ρ := Tryz.keysA_ren) { Tryz.keysA with } Fence.wide _ trivial rfl (by omega) Bm b nn D0 W hBm hcell hown
  have cS := AnyZI.sorted_in Tryz.sortedA Fence.wide 5 trivial trivial trivial trivial rfl (by omega) (G5 _) (enters_of Tryz.func240 (by kernel_rfl) rfl) 353 #[.pointer (some ⟨Bm, 0, none⟩)] trivial (enters_of Tryz.func353 (by kernel_rfl) rfl) _ _ hmax hbytes _ hseq
  exact callsIn_wide.1 cS
 nil W Bm hBm hcell := by
  have hseq : SeqGives Fence.wide 2 Tryz.prog 353 #[.pointer (some ⟨Bm, 0, none⟩)] encZ (fun ss : List Int => ss = []) 0 W :=
   AnyZI.keys_gives_nil (ρ := Tryz.keysA_ren) { Tryz.keysA with } Fence.wide _ trivial rfl Bm W hBm hcell
  have cS := AnyZI.sorted_in Tryz.sortedA Fence.wide 5 trivial trivial trivial trivial rfl (by omega) (G5 _) (enters_of Tryz.func240 (by kernel_rfl) rfl) 353 #[.pointer (some ⟨Bm, 0, none⟩)] trivial (enters_of Tryz.func353 (by kernel_rfl) rfl) _ 0 (Nat.zero_le _) (by omega) _ hseq
  refine (callsIn_wide.1 cS).mono ?_
  rintro e w' ⟨v, ss, rfl, rfl, _, hnil, hb⟩
  obtain rfl : v = .slice none 0 0 := hnil.2 rfl
  exact ⟨rfl, hb⟩}
end Go.Proofs.YtcolbcpeialmhaaGreatDoor
