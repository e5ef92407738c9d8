/- The world in which a call of this seat begins. -/
import Derived.Test.YtcolbcpeialmhaaGreatDoorA5
import Derived.Test.YtcolbcpeialmhaaGreatDoorRows
import Derived.ChangeSame
import Derived.ChangeVars
import Derived.JoinedOf
import Derived.RowKit
import Derived.ProofKit
import Derived.LaidMore
import Derived.LaidLaws
import Derived.OpenShut
import Derived.Stop.Joined
import Derived.KernelRfl
namespace Go.Proofs.YtcolbcpeialmhaaGreatDoor
open Go.ChangeShapes Go.WideShapes Go.RowKit Go.Ab
def E4 : List Int := [0, 1, 56, 2, 57, 49, 28, 3, 61, 58, 42, 50, 38, 29, 17, 4, 62, 47, 59, 36, 45, 43, 51, 22, 53, 39, 33, 30, 24, 18, 12, 5, 63, 55, 48, 27, 60, 41, 37, 16, 46, 35, 44, 21, 52, 32, 23, 11, 54, 26, 40, 15, 34, 20, 31, 10, 25, 14, 19, 9, 13, 8, 7, 6]
def EV (k : Nat) : Ren := fun b => if b = 3 then some ⟨3, 0, k, 1⟩ else none
theorem RD {W : World} {c : Array Value} {el : TypeId} {fr : Nat × Nat} (h : W.heap[3]? = some (.cells c el fr)) (hl : ∀ (i : Nat) (n : Int), E4[i]? = some n → c[i]? = some (Value.int .u8 n)) :
 HR W.heap.size (EV c.size) (hP []) W ∧ Gl [3] (EV c.size) ∧ ∀ k, ¬ CE (EV c.size) (hP []) k := by
 have hdom : ∀ b L, EV c.size b = some L → b = 3 ∧ L = ⟨3, 0, c.size, 1⟩ := fun b L e => by
  unfold EV at e
  by_cases hb : b = 3
  · rw [if_pos hb] at e; cases e; exact ⟨hb, rfl⟩
  · rw [if_neg hb] at e; cases e
 have hlt := dV h
 have h3 : (hP []).get 3 = some (.cells true 1 64 (Tr.ofList deB)) := by rw [iM [] 3 (by omega)]; rfl
 have hlen : 64 ≤ c.size := by
  have := dV (hl 63 6 rfl)
  omega
 refine ⟨⟨fM [], Nat.le_refl _, fun b L e => ?_, fun b L o e ho => ?_, fun b b' L L' o o' e e' ho ho' h1 h2 hne => ?_⟩, fun g hg => ?_, ?_⟩
 · obtain ⟨rfl, rfl⟩ := hdom b L e
   exact ⟨by show 3 < 4; omega, hlt⟩
 · obtain ⟨rfl, rfl⟩ := hdom b L e
   rw [h3] at ho
   cases ho
   refine ⟨⟨rfl, fun e => by cases e⟩, Tr.full_ofList deB, by show 0 + 64 ≤ c.size; omega, (fun e => by cases e), c, el, fr, h, (fun e => by cases e), rfl, fun i v hv => ?_⟩
   rw [Tr.get?_ofList] at hv
   unfold deB at hv
   rw [List.getElem?_map] at hv
   obtain ⟨n, e1, rfl⟩ := Option.map_eq_some_iff.1 hv
   exact ⟨_, by show c[0 + i]? = _; rw [Nat.zero_add]; exact hl i n e1, rfl⟩
 · obtain ⟨rfl, rfl⟩ := hdom b L e
   obtain ⟨rfl, rfl⟩ := hdom b' L' e'
   exact absurd rfl hne
 · have hg : g = 3 := by simpa using hg
   subst hg
   exact ⟨⟨3, 0, c.size, 1⟩, if_pos rfl, rfl, rfl⟩
 · rintro k ⟨b, L, o, e, ho, hown, _⟩
   obtain ⟨rfl, rfl⟩ := hdom b L e
   rw [h3] at ho
   cases ho
   cases hown
theorem own : ownKnob Tryz.prog.godebug = none := by kernel_rfl
theorem a1h : Tryz.prog.follows .mixedOrders = true := by kernel_rfl
theorem gTab : Tryz.prog.globalNamed "math/bits.deBruijn64tab" = some 3 := by kernel_rfl
theorem a6I : ∃ t, (Tryz.prog.globals[3]?).map (·.type) = some t ∧ ∃ e, Tryz.prog.underlying t = some (.array 64 e) ∧ Tryz.prog.underlying e = some (.int .u8) ∧ Tryz.prog.cellsOf e = 1 := by
 exact ⟨522, by kernel_rfl, 5, by kernel_rfl, by kernel_rfl, by kernel_rfl⟩
def ju : List (String × DataW Unit) := Rows.compileOrderRow.laid
theorem LA {W : World} (h : laidMetH Tryz.prog ju W) : ∃ k, HR W.heap.size k (hP []) W ∧ Gl [3] k ∧ ∀ j, ¬ CE k (hP []) j := by
 rw [MakeChecks.laidMetH_plain _ _ _ (by kernel_rfl)] at h
 obtain ⟨ps, hv, _, _⟩ := h
 have hv : DataW.LaidVars Tryz.prog W [("strconv.ErrSyntax", Rows.laid_strconv_ErrSyntax), ("strconv.ErrRange", Rows.laid_strconv_ErrRange), ("internal/strconv.uint64pow10", Rows.laid_internal_strconv_uint64pow10), ("math/bits.deBruijn32tab", Rows.laid_math_bits_deBruijn32tab), ("math/bits.deBruijn64tab", Rows.laid_math_bits_deBruijn64tab)] ps := hv
 obtain ⟨_, _, _, _, _, _, _, _, _, _, hv, _⟩ := hv
 obtain ⟨_, _, _, _, _, _, _, _, _, _, hv, _⟩ := hv
 obtain ⟨_, _, _, _, _, _, _, _, _, _, hv, _⟩ := hv
 obtain ⟨_, _, _, _, _, _, _, _, _, _, hv, _⟩ := hv
 obtain ⟨g0, t0, cs0, f0, p0, q0, hg0, ht0, hv0, hd0, _, _⟩ := hv
 obtain rfl := Option.some.inj (gTab.symm.trans hg0)
 obtain ⟨t, ht, e, hte, hee, hce⟩ := a6I
 obtain rfl := Option.some.inj (ht.symm.trans ht0)
 have hcells := pB (l := E4) hte hee hce hd0
 have hW : ∃ c el fr, W.heap[3]? = some (.cells c el fr) ∧ c = cs0 := by
  unfold World.var? at hv0
  rw [gTab] at hv0
  simp only [Option.bind_some] at hv0
  split at hv0
  · rename_i cs el fr hb
    exact ⟨cs, el, fr, hb, Option.some.inj hv0⟩
  · cases hv0
 obtain ⟨c, el, fr, hb, rfl⟩ := hW
 exact ⟨EV c.size, RD hb fun i n hi => by simpa using hcells i n hi⟩
theorem HB (os : Os) (args : Array Value) : laidMetH Tryz.prog ju ((World.doorLaid Tryz.prog 400 os).forCall (fun _ _ => 0) ⟨#[], args, []⟩).memory :=
 laidMetH_of_parts3 (fuel := 8) (laidMet_of_run' 8 (by kernel_rfl) (by kernel_rfl)) (by kernel_rfl) (by kernel_rfl)
end Go.Proofs.YtcolbcpeialmhaaGreatDoor
