/- The primitives; a text's certificate, joined. -/
import Derived.Test.YtlmcgeiacfbdnaaGreatDoorM2
import Derived.Test.YtlmcgeiacfbdnaaGreatDoorA3
import Derived.Test.YtlmcgeiacfbdnaaGreatDoorB1
import Derived.Test.YtlmcgeiacfbdnaaGreatDoorSorts
import Derived.Test.YtlmcgeiacfbdnaaGreatDoorVTab
import Derived.KernelRfl
namespace Go.Proofs.YtlmcgeiacfbdnaaGreatDoor
open Go.Ab
noncomputable section
set_option maxRecDepth 100000
abbrev prims3 : Prims := prim3v n242 n350 n324 n335
theorem prims3_ok (base : Nat) (G : List Nat) : PrimOK Tryz.prog base G prims3 := prim3v_ok keysA
theorem free3 {f : Nat} (h : ¬ (f = n242 ∨ f = n324 ∨ f = n335)) : prims3 f = none := by
 have h1 : Nat.beq f n242 = false := by cases c : Nat.beq f n242 with | false => rfl | true => exact absurd (.inl (Nat.eq_of_beq_eq_true c)) h
 have h2 : Nat.beq f n324 = false := by cases c : Nat.beq f n324 with | false => rfl | true => exact absurd (.inr (.inl (Nat.eq_of_beq_eq_true c))) h
 have h3 : Nat.beq f n335 = false := by cases c : Nat.beq f n335 with | false => rfl | true => exact absurd (.inr (.inr (Nat.eq_of_beq_eq_true c))) h
 show cond (Nat.beq f n242) _ _ = none
 rw [h1, h2, h3]
 rfl
abbrev H0 : AHeap := { n := 0, t := Tr.ofList [] }
theorem mixedT : Tryz.prog.follows .mixedOrders = true := by kernel_rfl
theorem calls3 (n base : Nat) : CallOK Tryz.prog base [] (VE prims3 n) := evH_sound mixedT (prims3_ok base []) V_tabOK n
abbrev onceA : Once := ⟨[], .bool true, []⟩
def primsT (o : Once) : Prims := fun f => cond (Nat.beq f n8) (some o.prim) (cond (Nat.beq f n5) (some onceA.prim) (prims3 f))
theorem awakeA : onceB onceA [] (VE prims3 999 n5 [] emptyH) = true := by kernel_rfl
theorem primsT_ok {o : Once} {s : List Nat} (hf : flatAs o.args = true) (hr : onceB o s (VE prims3 999 n8 o.args emptyH) = true) (base : Nat) : PrimOK Tryz.prog base [] (primsT o) := by
 intro f args H v H' h
 unfold primsT at h
 dsimp only at h
 cases c1 : Nat.beq f n8 with
 | true =>
  rw [c1] at h
  obtain rfl := Nat.eq_of_beq_eq_true c1
  exact once_ok (calls3 999) hf hr h
 | false =>
  rw [c1] at h
  cases c2 : Nat.beq f n5 with
  | true =>
   rw [c2] at h
   obtain rfl := Nat.eq_of_beq_eq_true c2
   exact once_ok (calls3 999) rfl awakeA h
  | false =>
   rw [c2] at h
   exact prims3_ok base [] f args H v H' h
theorem freeT (o : Once) : Free (primsT o) := fun f h => by
 have h1 : Nat.beq f n8 = false := by cases c : Nat.beq f n8 with | false => rfl | true => exact absurd (.inr (.inr (.inr (.inl (Nat.eq_of_beq_eq_true c))))) h
 have h2 : Nat.beq f n5 = false := by cases c : Nat.beq f n5 with | false => rfl | true => exact absurd (.inr (.inr (.inr (.inr (Nat.eq_of_beq_eq_true c))))) h
 show cond (Nat.beq f n8) _ _ = none
 rw [h1, h2]
 exact free3 fun h' => h (h'.imp id (Or.imp id .inl))
theorem srtT (o : Once) : Srt (primsT o) := rfl
def mapsB (m : Mo) : Bool := allB (fun u => allB (fun x => Nat.beq x 0) u.maps) m.funcs
theorem mapsB_spec {m : Mo} (h : mapsB m = true) : ∀ u ∈ m.funcs, ∀ x ∈ u.maps, x = 0 := fun u hu x hx => Nat.eq_of_beq_eq_true (allB_spec (allB_spec h u hu) x hx)
abbrev Look (o : Once) (C : Cert) (x : Int) (body : CallFn → R) (P : List AV → AHeap → R) : Prop :=
 (res (primsT o) C x (heapOf (body (capC (primsT o) 999 capt))), body (capC (primsT o) 999 P)) =
  ((true, (res (primsT o) C x (heapOf (body (capC (primsT o) 999 capt)))).2.1, (res (primsT o) C x (heapOf (body (capC (primsT o) 999 capt)))).2.1), ob2 (P [.str C.T, I 8, .int .u32 x, I (C.N : Int), C.wv, I 1, I 0] (heapOf (body (capC (primsT o) 999 capt)))) fun v H => some (v, H))
def Says (f : Nat) (args : List AV) : Prop := ∃ pr, (∀ base, PrimOK Tryz.prog base [] pr) ∧ isTrue (VE pr 1000 f args H0) = true
theorem text_ok {o : Once} {s : List Nat} {C : Cert} {x : Int} {f : Nat} {args : List AV} {body : CallFn → R} {n : Nat}
 (hr : onceB o s (VE prims3 999 n8 o.args emptyH) = true) (hf : flatAs o.args = true)
 (hb : VE (primsT o) 1000 f args H0 = body (VE (primsT o) 999))
 (q : ∀ P, Look o C x body P)
 (k : and2 (chk C.m C.want n C.s) (and2 (mapsB C.m) (and2 (Nat.ble C.want.length 65536) (and2 (Nat.ble C.N 100000) (Nat.ble 1 C.N)))) = true)
 (e : C.s.globals = [] ∧ C.s.ar.spans = List.replicate 8 ⟨-1, 0, 0⟩ ∧ C.s.uns = List.replicate 8 false ∧ C.s.q = [] ∧ C.s.phase = 0 ∧ C.s.black = false ∧ C.s.gs = some C.fs) :
 Says f args := by
 obtain ⟨k1, k⟩ := and2_eq k
 obtain ⟨k2, k⟩ := and2_eq k
 obtain ⟨k3, k⟩ := and2_eq k
 obtain ⟨k4, k5⟩ := and2_eq k
 obtain ⟨e1, e2, e3, e4, e5, e6, e7⟩ := e
 have p : ∀ P, _ := fun P => congrArg Prod.snd (q P)
 have r := congrArg Prod.fst (q capt)
 refine ⟨primsT o, primsT_ok hf hr, ?_⟩
 obtain ⟨H', h⟩ := law_ok (freeT o) (srtT o) hb p r (Nat.le_of_ble_eq_true k3) (Nat.le_of_ble_eq_true k4) (Nat.le_of_ble_eq_true k5) e7 e6
  ⟨⟨n, C.s, k1, .refl _⟩, ⟨mapsB_spec k2, e1, fun p hp => by rw [e2] at hp; exact List.eq_of_mem_replicate hp, by rw [e2]; simp, fun b hb => by rw [e3] at hb; exact List.eq_of_mem_replicate hb, e4⟩, .inl e5⟩
 rw [h]
 rfl
def slT (b n : Nat) : AV := .sl b 0 n none
def fvT (l : List Fu) : Nat → List FV := List.rec (motive := fun _ => Nat → List FV) (fun _ => []) (fun u _ ih j => ⟨slT j u.kinds.length, slT (Nat.succ j) u.code.length, .sl (Nat.add j 2) 0 u.maps.length (some u.maps.length)⟩ :: ih (Nat.add j 3)) l
def fbT (l : List Fu) : List TBk := List.rec (motive := fun _ => List TBk) [] (fun u _ ih => (1, u.kinds.map .bool) :: (5, u.code.flatMap Ins.cells) :: (1, u.maps.map mapV) :: ih) l
def onceOf (T : List UInt8) (m : Mo) (main : Int) : Once :=
 ⟨[.str T], .tup [.agg [.nilsl, .nilsl, slT 0 m.consts.length, .nilsl, slT 1 m.funcs.length, I main], .agg [I 0, I 0]], (1, m.consts.map I) :: (7, (m.funcs.zip (fvT m.funcs 2)).flatMap fuCells) :: fbT m.funcs⟩
end
end Go.Proofs.YtlmcgeiacfbdnaaGreatDoor
