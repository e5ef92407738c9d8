/- Frames of 400 temporaries: each place has its own reader and its own writer. -/
import Derived.Test.YtooindilclphjaaGreatDoorAbU
import Derived.KernelRfl
namespace Go.Ab
noncomputable section

structure N20 (α : Type) where
  mk ::
  x0 : α
  x1 : α
  x2 : α
  x3 : α
  x4 : α
  x5 : α
  x6 : α
  x7 : α
  x8 : α
  x9 : α
  x10 : α
  x11 : α
  x12 : α
  x13 : α
  x14 : α
  x15 : α
  x16 : α
  x17 : α
  x18 : α
  x19 : α

section
variable {α : Type}

def N20.u0 (f : α → α) (n : N20 α) : N20 α := N20.rec (motive := fun _ => N20 α) (fun x0 x1 x2 x3 x4 x5 x6 x7 x8 x9 x10 x11 x12 x13 x14 x15 x16 x17 x18 x19 => N20.mk (f x0) x1 x2 x3 x4 x5 x6 x7 x8 x9 x10 x11 x12 x13 x14 x15 x16 x17 x18 x19) n
def N20.s0 (v : α) (n : N20 α) : N20 α := N20.rec (motive := fun _ => N20 α) (fun _ x1 x2 x3 x4 x5 x6 x7 x8 x9 x10 x11 x12 x13 x14 x15 x16 x17 x18 x19 => N20.mk v x1 x2 x3 x4 x5 x6 x7 x8 x9 x10 x11 x12 x13 x14 x15 x16 x17 x18 x19) n
def N20.u1 (f : α → α) (n : N20 α) : N20 α := N20.rec (motive := fun _ => N20 α) (fun x0 x1 x2 x3 x4 x5 x6 x7 x8 x9 x10 x11 x12 x13 x14 x15 x16 x17 x18 x19 => N20.mk x0 (f x1) x2 x3 x4 x5 x6 x7 x8 x9 x10 x11 x12 x13 x14 x15 x16 x17 x18 x19) n
def N20.s1 (v : α) (n : N20 α) : N20 α := N20.rec (motive := fun _ => N20 α) (fun x0 _ x2 x3 x4 x5 x6 x7 x8 x9 x10 x11 x12 x13 x14 x15 x16 x17 x18 x19 => N20.mk x0 v x2 x3 x4 x5 x6 x7 x8 x9 x10 x11 x12 x13 x14 x15 x16 x17 x18 x19) n
def N20.u2 (f : α → α) (n : N20 α) : N20 α := N20.rec (motive := fun _ => N20 α) (fun x0 x1 x2 x3 x4 x5 x6 x7 x8 x9 x10 x11 x12 x13 x14 x15 x16 x17 x18 x19 => N20.mk x0 x1 (f x2) x3 x4 x5 x6 x7 x8 x9 x10 x11 x12 x13 x14 x15 x16 x17 x18 x19) n
def N20.s2 (v : α) (n : N20 α) : N20 α := N20.rec (motive := fun _ => N20 α) (fun x0 x1 _ x3 x4 x5 x6 x7 x8 x9 x10 x11 x12 x13 x14 x15 x16 x17 x18 x19 => N20.mk x0 x1 v x3 x4 x5 x6 x7 x8 x9 x10 x11 x12 x13 x14 x15 x16 x17 x18 x19) n
def N20.u3 (f : α → α) (n : N20 α) : N20 α := N20.rec (motive := fun _ => N20 α) (fun x0 x1 x2 x3 x4 x5 x6 x7 x8 x9 x10 x11 x12 x13 x14 x15 x16 x17 x18 x19 => N20.mk x0 x1 x2 (f x3) x4 x5 x6 x7 x8 x9 x10 x11 x12 x13 x14 x15 x16 x17 x18 x19) n
def N20.s3 (v : α) (n : N20 α) : N20 α := N20.rec (motive := fun _ => N20 α) (fun x0 x1 x2 _ x4 x5 x6 x7 x8 x9 x10 x11 x12 x13 x14 x15 x16 x17 x18 x19 => N20.mk x0 x1 x2 v x4 x5 x6 x7 x8 x9 x10 x11 x12 x13 x14 x15 x16 x17 x18 x19) n
def N20.u4 (f : α → α) (n : N20 α) : N20 α := N20.rec (motive := fun _ => N20 α) (fun x0 x1 x2 x3 x4 x5 x6 x7 x8 x9 x10 x11 x12 x13 x14 x15 x16 x17 x18 x19 => N20.mk x0 x1 x2 x3 (f x4) x5 x6 x7 x8 x9 x10 x11 x12 x13 x14 x15 x16 x17 x18 x19) n
def N20.s4 (v : α) (n : N20 α) : N20 α := N20.rec (motive := fun _ => N20 α) (fun x0 x1 x2 x3 _ x5 x6 x7 x8 x9 x10 x11 x12 x13 x14 x15 x16 x17 x18 x19 => N20.mk x0 x1 x2 x3 v x5 x6 x7 x8 x9 x10 x11 x12 x13 x14 x15 x16 x17 x18 x19) n
def N20.u5 (f : α → α) (n : N20 α) : N20 α := N20.rec (motive := fun _ => N20 α) (fun x0 x1 x2 x3 x4 x5 x6 x7 x8 x9 x10 x11 x12 x13 x14 x15 x16 x17 x18 x19 => N20.mk x0 x1 x2 x3 x4 (f x5) x6 x7 x8 x9 x10 x11 x12 x13 x14 x15 x16 x17 x18 x19) n
def N20.s5 (v : α) (n : N20 α) : N20 α := N20.rec (motive := fun _ => N20 α) (fun x0 x1 x2 x3 x4 _ x6 x7 x8 x9 x10 x11 x12 x13 x14 x15 x16 x17 x18 x19 => N20.mk x0 x1 x2 x3 x4 v x6 x7 x8 x9 x10 x11 x12 x13 x14 x15 x16 x17 x18 x19) n
def N20.u6 (f : α → α) (n : N20 α) : N20 α := N20.rec (motive := fun _ => N20 α) (fun x0 x1 x2 x3 x4 x5 x6 x7 x8 x9 x10 x11 x12 x13 x14 x15 x16 x17 x18 x19 => N20.mk x0 x1 x2 x3 x4 x5 (f x6) x7 x8 x9 x10 x11 x12 x13 x14 x15 x16 x17 x18 x19) n
def N20.s6 (v : α) (n : N20 α) : N20 α := N20.rec (motive := fun _ => N20 α) (fun x0 x1 x2 x3 x4 x5 _ x7 x8 x9 x10 x11 x12 x13 x14 x15 x16 x17 x18 x19 => N20.mk x0 x1 x2 x3 x4 x5 v x7 x8 x9 x10 x11 x12 x13 x14 x15 x16 x17 x18 x19) n
def N20.u7 (f : α → α) (n : N20 α) : N20 α := N20.rec (motive := fun _ => N20 α) (fun x0 x1 x2 x3 x4 x5 x6 x7 x8 x9 x10 x11 x12 x13 x14 x15 x16 x17 x18 x19 => N20.mk x0 x1 x2 x3 x4 x5 x6 (f x7) x8 x9 x10 x11 x12 x13 x14 x15 x16 x17 x18 x19) n
def N20.s7 (v : α) (n : N20 α) : N20 α := N20.rec (motive := fun _ => N20 α) (fun x0 x1 x2 x3 x4 x5 x6 _ x8 x9 x10 x11 x12 x13 x14 x15 x16 x17 x18 x19 => N20.mk x0 x1 x2 x3 x4 x5 x6 v x8 x9 x10 x11 x12 x13 x14 x15 x16 x17 x18 x19) n
def N20.u8 (f : α → α) (n : N20 α) : N20 α := N20.rec (motive := fun _ => N20 α) (fun x0 x1 x2 x3 x4 x5 x6 x7 x8 x9 x10 x11 x12 x13 x14 x15 x16 x17 x18 x19 => N20.mk x0 x1 x2 x3 x4 x5 x6 x7 (f x8) x9 x10 x11 x12 x13 x14 x15 x16 x17 x18 x19) n
def N20.s8 (v : α) (n : N20 α) : N20 α := N20.rec (motive := fun _ => N20 α) (fun x0 x1 x2 x3 x4 x5 x6 x7 _ x9 x10 x11 x12 x13 x14 x15 x16 x17 x18 x19 => N20.mk x0 x1 x2 x3 x4 x5 x6 x7 v x9 x10 x11 x12 x13 x14 x15 x16 x17 x18 x19) n
def N20.u9 (f : α → α) (n : N20 α) : N20 α := N20.rec (motive := fun _ => N20 α) (fun x0 x1 x2 x3 x4 x5 x6 x7 x8 x9 x10 x11 x12 x13 x14 x15 x16 x17 x18 x19 => N20.mk x0 x1 x2 x3 x4 x5 x6 x7 x8 (f x9) x10 x11 x12 x13 x14 x15 x16 x17 x18 x19) n
def N20.s9 (v : α) (n : N20 α) : N20 α := N20.rec (motive := fun _ => N20 α) (fun x0 x1 x2 x3 x4 x5 x6 x7 x8 _ x10 x11 x12 x13 x14 x15 x16 x17 x18 x19 => N20.mk x0 x1 x2 x3 x4 x5 x6 x7 x8 v x10 x11 x12 x13 x14 x15 x16 x17 x18 x19) n
def N20.u10 (f : α → α) (n : N20 α) : N20 α := N20.rec (motive := fun _ => N20 α) (fun x0 x1 x2 x3 x4 x5 x6 x7 x8 x9 x10 x11 x12 x13 x14 x15 x16 x17 x18 x19 => N20.mk x0 x1 x2 x3 x4 x5 x6 x7 x8 x9 (f x10) x11 x12 x13 x14 x15 x16 x17 x18 x19) n
def N20.s10 (v : α) (n : N20 α) : N20 α := N20.rec (motive := fun _ => N20 α) (fun x0 x1 x2 x3 x4 x5 x6 x7 x8 x9 _ x11 x12 x13 x14 x15 x16 x17 x18 x19 => N20.mk x0 x1 x2 x3 x4 x5 x6 x7 x8 x9 v x11 x12 x13 x14 x15 x16 x17 x18 x19) n
def N20.u11 (f : α → α) (n : N20 α) : N20 α := N20.rec (motive := fun _ => N20 α) (fun x0 x1 x2 x3 x4 x5 x6 x7 x8 x9 x10 x11 x12 x13 x14 x15 x16 x17 x18 x19 => N20.mk x0 x1 x2 x3 x4 x5 x6 x7 x8 x9 x10 (f x11) x12 x13 x14 x15 x16 x17 x18 x19) n
def N20.s11 (v : α) (n : N20 α) : N20 α := N20.rec (motive := fun _ => N20 α) (fun x0 x1 x2 x3 x4 x5 x6 x7 x8 x9 x10 _ x12 x13 x14 x15 x16 x17 x18 x19 => N20.mk x0 x1 x2 x3 x4 x5 x6 x7 x8 x9 x10 v x12 x13 x14 x15 x16 x17 x18 x19) n
def N20.u12 (f : α → α) (n : N20 α) : N20 α := N20.rec (motive := fun _ => N20 α) (fun x0 x1 x2 x3 x4 x5 x6 x7 x8 x9 x10 x11 x12 x13 x14 x15 x16 x17 x18 x19 => N20.mk x0 x1 x2 x3 x4 x5 x6 x7 x8 x9 x10 x11 (f x12) x13 x14 x15 x16 x17 x18 x19) n
def N20.s12 (v : α) (n : N20 α) : N20 α := N20.rec (motive := fun _ => N20 α) (fun x0 x1 x2 x3 x4 x5 x6 x7 x8 x9 x10 x11 _ x13 x14 x15 x16 x17 x18 x19 => N20.mk x0 x1 x2 x3 x4 x5 x6 x7 x8 x9 x10 x11 v x13 x14 x15 x16 x17 x18 x19) n
def N20.u13 (f : α → α) (n : N20 α) : N20 α := N20.rec (motive := fun _ => N20 α) (fun x0 x1 x2 x3 x4 x5 x6 x7 x8 x9 x10 x11 x12 x13 x14 x15 x16 x17 x18 x19 => N20.mk x0 x1 x2 x3 x4 x5 x6 x7 x8 x9 x10 x11 x12 (f x13) x14 x15 x16 x17 x18 x19) n
def N20.s13 (v : α) (n : N20 α) : N20 α := N20.rec (motive := fun _ => N20 α) (fun x0 x1 x2 x3 x4 x5 x6 x7 x8 x9 x10 x11 x12 _ x14 x15 x16 x17 x18 x19 => N20.mk x0 x1 x2 x3 x4 x5 x6 x7 x8 x9 x10 x11 x12 v x14 x15 x16 x17 x18 x19) n
def N20.u14 (f : α → α) (n : N20 α) : N20 α := N20.rec (motive := fun _ => N20 α) (fun x0 x1 x2 x3 x4 x5 x6 x7 x8 x9 x10 x11 x12 x13 x14 x15 x16 x17 x18 x19 => N20.mk x0 x1 x2 x3 x4 x5 x6 x7 x8 x9 x10 x11 x12 x13 (f x14) x15 x16 x17 x18 x19) n
def N20.s14 (v : α) (n : N20 α) : N20 α := N20.rec (motive := fun _ => N20 α) (fun x0 x1 x2 x3 x4 x5 x6 x7 x8 x9 x10 x11 x12 x13 _ x15 x16 x17 x18 x19 => N20.mk x0 x1 x2 x3 x4 x5 x6 x7 x8 x9 x10 x11 x12 x13 v x15 x16 x17 x18 x19) n
def N20.u15 (f : α → α) (n : N20 α) : N20 α := N20.rec (motive := fun _ => N20 α) (fun x0 x1 x2 x3 x4 x5 x6 x7 x8 x9 x10 x11 x12 x13 x14 x15 x16 x17 x18 x19 => N20.mk x0 x1 x2 x3 x4 x5 x6 x7 x8 x9 x10 x11 x12 x13 x14 (f x15) x16 x17 x18 x19) n
def N20.s15 (v : α) (n : N20 α) : N20 α := N20.rec (motive := fun _ => N20 α) (fun x0 x1 x2 x3 x4 x5 x6 x7 x8 x9 x10 x11 x12 x13 x14 _ x16 x17 x18 x19 => N20.mk x0 x1 x2 x3 x4 x5 x6 x7 x8 x9 x10 x11 x12 x13 x14 v x16 x17 x18 x19) n
def N20.u16 (f : α → α) (n : N20 α) : N20 α := N20.rec (motive := fun _ => N20 α) (fun x0 x1 x2 x3 x4 x5 x6 x7 x8 x9 x10 x11 x12 x13 x14 x15 x16 x17 x18 x19 => N20.mk x0 x1 x2 x3 x4 x5 x6 x7 x8 x9 x10 x11 x12 x13 x14 x15 (f x16) x17 x18 x19) n
def N20.s16 (v : α) (n : N20 α) : N20 α := N20.rec (motive := fun _ => N20 α) (fun x0 x1 x2 x3 x4 x5 x6 x7 x8 x9 x10 x11 x12 x13 x14 x15 _ x17 x18 x19 => N20.mk x0 x1 x2 x3 x4 x5 x6 x7 x8 x9 x10 x11 x12 x13 x14 x15 v x17 x18 x19) n
def N20.u17 (f : α → α) (n : N20 α) : N20 α := N20.rec (motive := fun _ => N20 α) (fun x0 x1 x2 x3 x4 x5 x6 x7 x8 x9 x10 x11 x12 x13 x14 x15 x16 x17 x18 x19 => N20.mk x0 x1 x2 x3 x4 x5 x6 x7 x8 x9 x10 x11 x12 x13 x14 x15 x16 (f x17) x18 x19) n
def N20.s17 (v : α) (n : N20 α) : N20 α := N20.rec (motive := fun _ => N20 α) (fun x0 x1 x2 x3 x4 x5 x6 x7 x8 x9 x10 x11 x12 x13 x14 x15 x16 _ x18 x19 => N20.mk x0 x1 x2 x3 x4 x5 x6 x7 x8 x9 x10 x11 x12 x13 x14 x15 x16 v x18 x19) n
def N20.u18 (f : α → α) (n : N20 α) : N20 α := N20.rec (motive := fun _ => N20 α) (fun x0 x1 x2 x3 x4 x5 x6 x7 x8 x9 x10 x11 x12 x13 x14 x15 x16 x17 x18 x19 => N20.mk x0 x1 x2 x3 x4 x5 x6 x7 x8 x9 x10 x11 x12 x13 x14 x15 x16 x17 (f x18) x19) n
def N20.s18 (v : α) (n : N20 α) : N20 α := N20.rec (motive := fun _ => N20 α) (fun x0 x1 x2 x3 x4 x5 x6 x7 x8 x9 x10 x11 x12 x13 x14 x15 x16 x17 _ x19 => N20.mk x0 x1 x2 x3 x4 x5 x6 x7 x8 x9 x10 x11 x12 x13 x14 x15 x16 x17 v x19) n
def N20.u19 (f : α → α) (n : N20 α) : N20 α := N20.rec (motive := fun _ => N20 α) (fun x0 x1 x2 x3 x4 x5 x6 x7 x8 x9 x10 x11 x12 x13 x14 x15 x16 x17 x18 x19 => N20.mk x0 x1 x2 x3 x4 x5 x6 x7 x8 x9 x10 x11 x12 x13 x14 x15 x16 x17 x18 (f x19)) n
def N20.s19 (v : α) (n : N20 α) : N20 α := N20.rec (motive := fun _ => N20 α) (fun x0 x1 x2 x3 x4 x5 x6 x7 x8 x9 x10 x11 x12 x13 x14 x15 x16 x17 x18 _ => N20.mk x0 x1 x2 x3 x4 x5 x6 x7 x8 x9 x10 x11 x12 x13 x14 x15 x16 x17 x18 v) n
def N20.gd (i : Nat) (n : N20 α) : α := Bool.rec (motive := fun _ => α) (Bool.rec (motive := fun _ => α) (Bool.rec (motive := fun _ => α) (Bool.rec (motive := fun _ => α) (Bool.rec (motive := fun _ => α) (n.x19) (n.x18) (Nat.ble i 18)) (n.x17) (Nat.ble i 17)) (Bool.rec (motive := fun _ => α) (n.x16) (n.x15) (Nat.ble i 15)) (Nat.ble i 16)) (Bool.rec (motive := fun _ => α) (Bool.rec (motive := fun _ => α) (Bool.rec (motive := fun _ => α) (n.x14) (n.x13) (Nat.ble i 13)) (n.x12) (Nat.ble i 12)) (Bool.rec (motive := fun _ => α) (n.x11) (n.x10) (Nat.ble i 10)) (Nat.ble i 11)) (Nat.ble i 14)) (Bool.rec (motive := fun _ => α) (Bool.rec (motive := fun _ => α) (Bool.rec (motive := fun _ => α) (Bool.rec (motive := fun _ => α) (n.x9) (n.x8) (Nat.ble i 8)) (n.x7) (Nat.ble i 7)) (Bool.rec (motive := fun _ => α) (n.x6) (n.x5) (Nat.ble i 5)) (Nat.ble i 6)) (Bool.rec (motive := fun _ => α) (Bool.rec (motive := fun _ => α) (Bool.rec (motive := fun _ => α) (n.x4) (n.x3) (Nat.ble i 3)) (n.x2) (Nat.ble i 2)) (Bool.rec (motive := fun _ => α) (n.x1) (n.x0) (Nat.ble i 0)) (Nat.ble i 1)) (Nat.ble i 4)) (Nat.ble i 9)
def N20.ud (i : Nat) (f : α → α) (n : N20 α) : N20 α := Bool.rec (motive := fun _ => N20 α) (Bool.rec (motive := fun _ => N20 α) (Bool.rec (motive := fun _ => N20 α) (Bool.rec (motive := fun _ => N20 α) (Bool.rec (motive := fun _ => N20 α) (N20.u19 f n) (N20.u18 f n) (Nat.ble i 18)) (N20.u17 f n) (Nat.ble i 17)) (Bool.rec (motive := fun _ => N20 α) (N20.u16 f n) (N20.u15 f n) (Nat.ble i 15)) (Nat.ble i 16)) (Bool.rec (motive := fun _ => N20 α) (Bool.rec (motive := fun _ => N20 α) (Bool.rec (motive := fun _ => N20 α) (N20.u14 f n) (N20.u13 f n) (Nat.ble i 13)) (N20.u12 f n) (Nat.ble i 12)) (Bool.rec (motive := fun _ => N20 α) (N20.u11 f n) (N20.u10 f n) (Nat.ble i 10)) (Nat.ble i 11)) (Nat.ble i 14)) (Bool.rec (motive := fun _ => N20 α) (Bool.rec (motive := fun _ => N20 α) (Bool.rec (motive := fun _ => N20 α) (Bool.rec (motive := fun _ => N20 α) (N20.u9 f n) (N20.u8 f n) (Nat.ble i 8)) (N20.u7 f n) (Nat.ble i 7)) (Bool.rec (motive := fun _ => N20 α) (N20.u6 f n) (N20.u5 f n) (Nat.ble i 5)) (Nat.ble i 6)) (Bool.rec (motive := fun _ => N20 α) (Bool.rec (motive := fun _ => N20 α) (Bool.rec (motive := fun _ => N20 α) (N20.u4 f n) (N20.u3 f n) (Nat.ble i 3)) (N20.u2 f n) (Nat.ble i 2)) (Bool.rec (motive := fun _ => N20 α) (N20.u1 f n) (N20.u0 f n) (Nat.ble i 0)) (Nat.ble i 1)) (Nat.ble i 4)) (Nat.ble i 9)
def N20.tab (f : Nat → α) : N20 α := N20.mk (f 0) (f 1) (f 2) (f 3) (f 4) (f 5) (f 6) (f 7) (f 8) (f 9) (f 10) (f 11) (f 12) (f 13) (f 14) (f 15) (f 16) (f 17) (f 18) (f 19)

theorem N20.gd_u0 (f : α → α) (n : N20 α) (i : Nat) (hi : i < 20) : N20.gd i (N20.u0 f n) = if i = 0 then f (N20.gd i n) else N20.gd i n := by
  cases n; match i, hi with
  | 0, _ => rfl
  | 1, _ => rfl
  | 2, _ => rfl
  | 3, _ => rfl
  | 4, _ => rfl
  | 5, _ => rfl
  | 6, _ => rfl
  | 7, _ => rfl
  | 8, _ => rfl
  | 9, _ => rfl
  | 10, _ => rfl
  | 11, _ => rfl
  | 12, _ => rfl
  | 13, _ => rfl
  | 14, _ => rfl
  | 15, _ => rfl
  | 16, _ => rfl
  | 17, _ => rfl
  | 18, _ => rfl
  | 19, _ => rfl
  | n + 20, h => exact absurd h (by omega)
theorem N20.gd_u1 (f : α → α) (n : N20 α) (i : Nat) (hi : i < 20) : N20.gd i (N20.u1 f n) = if i = 1 then f (N20.gd i n) else N20.gd i n := by
  cases n; match i, hi with
  | 0, _ => rfl
  | 1, _ => rfl
  | 2, _ => rfl
  | 3, _ => rfl
  | 4, _ => rfl
  | 5, _ => rfl
  | 6, _ => rfl
  | 7, _ => rfl
  | 8, _ => rfl
  | 9, _ => rfl
  | 10, _ => rfl
  | 11, _ => rfl
  | 12, _ => rfl
  | 13, _ => rfl
  | 14, _ => rfl
  | 15, _ => rfl
  | 16, _ => rfl
  | 17, _ => rfl
  | 18, _ => rfl
  | 19, _ => rfl
  | n + 20, h => exact absurd h (by omega)
theorem N20.gd_u2 (f : α → α) (n : N20 α) (i : Nat) (hi : i < 20) : N20.gd i (N20.u2 f n) = if i = 2 then f (N20.gd i n) else N20.gd i n := by
  cases n; match i, hi with
  | 0, _ => rfl
  | 1, _ => rfl
  | 2, _ => rfl
  | 3, _ => rfl
  | 4, _ => rfl
  | 5, _ => rfl
  | 6, _ => rfl
  | 7, _ => rfl
  | 8, _ => rfl
  | 9, _ => rfl
  | 10, _ => rfl
  | 11, _ => rfl
  | 12, _ => rfl
  | 13, _ => rfl
  | 14, _ => rfl
  | 15, _ => rfl
  | 16, _ => rfl
  | 17, _ => rfl
  | 18, _ => rfl
  | 19, _ => rfl
  | n + 20, h => exact absurd h (by omega)
theorem N20.gd_u3 (f : α → α) (n : N20 α) (i : Nat) (hi : i < 20) : N20.gd i (N20.u3 f n) = if i = 3 then f (N20.gd i n) else N20.gd i n := by
  cases n; match i, hi with
  | 0, _ => rfl
  | 1, _ => rfl
  | 2, _ => rfl
  | 3, _ => rfl
  | 4, _ => rfl
  | 5, _ => rfl
  | 6, _ => rfl
  | 7, _ => rfl
  | 8, _ => rfl
  | 9, _ => rfl
  | 10, _ => rfl
  | 11, _ => rfl
  | 12, _ => rfl
  | 13, _ => rfl
  | 14, _ => rfl
  | 15, _ => rfl
  | 16, _ => rfl
  | 17, _ => rfl
  | 18, _ => rfl
  | 19, _ => rfl
  | n + 20, h => exact absurd h (by omega)
theorem N20.gd_u4 (f : α → α) (n : N20 α) (i : Nat) (hi : i < 20) : N20.gd i (N20.u4 f n) = if i = 4 then f (N20.gd i n) else N20.gd i n := by
  cases n; match i, hi with
  | 0, _ => rfl
  | 1, _ => rfl
  | 2, _ => rfl
  | 3, _ => rfl
  | 4, _ => rfl
  | 5, _ => rfl
  | 6, _ => rfl
  | 7, _ => rfl
  | 8, _ => rfl
  | 9, _ => rfl
  | 10, _ => rfl
  | 11, _ => rfl
  | 12, _ => rfl
  | 13, _ => rfl
  | 14, _ => rfl
  | 15, _ => rfl
  | 16, _ => rfl
  | 17, _ => rfl
  | 18, _ => rfl
  | 19, _ => rfl
  | n + 20, h => exact absurd h (by omega)
theorem N20.gd_u5 (f : α → α) (n : N20 α) (i : Nat) (hi : i < 20) : N20.gd i (N20.u5 f n) = if i = 5 then f (N20.gd i n) else N20.gd i n := by
  cases n; match i, hi with
  | 0, _ => rfl
  | 1, _ => rfl
  | 2, _ => rfl
  | 3, _ => rfl
  | 4, _ => rfl
  | 5, _ => rfl
  | 6, _ => rfl
  | 7, _ => rfl
  | 8, _ => rfl
  | 9, _ => rfl
  | 10, _ => rfl
  | 11, _ => rfl
  | 12, _ => rfl
  | 13, _ => rfl
  | 14, _ => rfl
  | 15, _ => rfl
  | 16, _ => rfl
  | 17, _ => rfl
  | 18, _ => rfl
  | 19, _ => rfl
  | n + 20, h => exact absurd h (by omega)
theorem N20.gd_u6 (f : α → α) (n : N20 α) (i : Nat) (hi : i < 20) : N20.gd i (N20.u6 f n) = if i = 6 then f (N20.gd i n) else N20.gd i n := by
  cases n; match i, hi with
  | 0, _ => rfl
  | 1, _ => rfl
  | 2, _ => rfl
  | 3, _ => rfl
  | 4, _ => rfl
  | 5, _ => rfl
  | 6, _ => rfl
  | 7, _ => rfl
  | 8, _ => rfl
  | 9, _ => rfl
  | 10, _ => rfl
  | 11, _ => rfl
  | 12, _ => rfl
  | 13, _ => rfl
  | 14, _ => rfl
  | 15, _ => rfl
  | 16, _ => rfl
  | 17, _ => rfl
  | 18, _ => rfl
  | 19, _ => rfl
  | n + 20, h => exact absurd h (by omega)
theorem N20.gd_u7 (f : α → α) (n : N20 α) (i : Nat) (hi : i < 20) : N20.gd i (N20.u7 f n) = if i = 7 then f (N20.gd i n) else N20.gd i n := by
  cases n; match i, hi with
  | 0, _ => rfl
  | 1, _ => rfl
  | 2, _ => rfl
  | 3, _ => rfl
  | 4, _ => rfl
  | 5, _ => rfl
  | 6, _ => rfl
  | 7, _ => rfl
  | 8, _ => rfl
  | 9, _ => rfl
  | 10, _ => rfl
  | 11, _ => rfl
  | 12, _ => rfl
  | 13, _ => rfl
  | 14, _ => rfl
  | 15, _ => rfl
  | 16, _ => rfl
  | 17, _ => rfl
  | 18, _ => rfl
  | 19, _ => rfl
  | n + 20, h => exact absurd h (by omega)
theorem N20.gd_u8 (f : α → α) (n : N20 α) (i : Nat) (hi : i < 20) : N20.gd i (N20.u8 f n) = if i = 8 then f (N20.gd i n) else N20.gd i n := by
  cases n; match i, hi with
  | 0, _ => rfl
  | 1, _ => rfl
  | 2, _ => rfl
  | 3, _ => rfl
  | 4, _ => rfl
  | 5, _ => rfl
  | 6, _ => rfl
  | 7, _ => rfl
  | 8, _ => rfl
  | 9, _ => rfl
  | 10, _ => rfl
  | 11, _ => rfl
  | 12, _ => rfl
  | 13, _ => rfl
  | 14, _ => rfl
  | 15, _ => rfl
  | 16, _ => rfl
  | 17, _ => rfl
  | 18, _ => rfl
  | 19, _ => rfl
  | n + 20, h => exact absurd h (by omega)
theorem N20.gd_u9 (f : α → α) (n : N20 α) (i : Nat) (hi : i < 20) : N20.gd i (N20.u9 f n) = if i = 9 then f (N20.gd i n) else N20.gd i n := by
  cases n; match i, hi with
  | 0, _ => rfl
  | 1, _ => rfl
  | 2, _ => rfl
  | 3, _ => rfl
  | 4, _ => rfl
  | 5, _ => rfl
  | 6, _ => rfl
  | 7, _ => rfl
  | 8, _ => rfl
  | 9, _ => rfl
  | 10, _ => rfl
  | 11, _ => rfl
  | 12, _ => rfl
  | 13, _ => rfl
  | 14, _ => rfl
  | 15, _ => rfl
  | 16, _ => rfl
  | 17, _ => rfl
  | 18, _ => rfl
  | 19, _ => rfl
  | n + 20, h => exact absurd h (by omega)
theorem N20.gd_u10 (f : α → α) (n : N20 α) (i : Nat) (hi : i < 20) : N20.gd i (N20.u10 f n) = if i = 10 then f (N20.gd i n) else N20.gd i n := by
  cases n; match i, hi with
  | 0, _ => rfl
  | 1, _ => rfl
  | 2, _ => rfl
  | 3, _ => rfl
  | 4, _ => rfl
  | 5, _ => rfl
  | 6, _ => rfl
  | 7, _ => rfl
  | 8, _ => rfl
  | 9, _ => rfl
  | 10, _ => rfl
  | 11, _ => rfl
  | 12, _ => rfl
  | 13, _ => rfl
  | 14, _ => rfl
  | 15, _ => rfl
  | 16, _ => rfl
  | 17, _ => rfl
  | 18, _ => rfl
  | 19, _ => rfl
  | n + 20, h => exact absurd h (by omega)
theorem N20.gd_u11 (f : α → α) (n : N20 α) (i : Nat) (hi : i < 20) : N20.gd i (N20.u11 f n) = if i = 11 then f (N20.gd i n) else N20.gd i n := by
  cases n; match i, hi with
  | 0, _ => rfl
  | 1, _ => rfl
  | 2, _ => rfl
  | 3, _ => rfl
  | 4, _ => rfl
  | 5, _ => rfl
  | 6, _ => rfl
  | 7, _ => rfl
  | 8, _ => rfl
  | 9, _ => rfl
  | 10, _ => rfl
  | 11, _ => rfl
  | 12, _ => rfl
  | 13, _ => rfl
  | 14, _ => rfl
  | 15, _ => rfl
  | 16, _ => rfl
  | 17, _ => rfl
  | 18, _ => rfl
  | 19, _ => rfl
  | n + 20, h => exact absurd h (by omega)
theorem N20.gd_u12 (f : α → α) (n : N20 α) (i : Nat) (hi : i < 20) : N20.gd i (N20.u12 f n) = if i = 12 then f (N20.gd i n) else N20.gd i n := by
  cases n; match i, hi with
  | 0, _ => rfl
  | 1, _ => rfl
  | 2, _ => rfl
  | 3, _ => rfl
  | 4, _ => rfl
  | 5, _ => rfl
  | 6, _ => rfl
  | 7, _ => rfl
  | 8, _ => rfl
  | 9, _ => rfl
  | 10, _ => rfl
  | 11, _ => rfl
  | 12, _ => rfl
  | 13, _ => rfl
  | 14, _ => rfl
  | 15, _ => rfl
  | 16, _ => rfl
  | 17, _ => rfl
  | 18, _ => rfl
  | 19, _ => rfl
  | n + 20, h => exact absurd h (by omega)
theorem N20.gd_u13 (f : α → α) (n : N20 α) (i : Nat) (hi : i < 20) : N20.gd i (N20.u13 f n) = if i = 13 then f (N20.gd i n) else N20.gd i n := by
  cases n; match i, hi with
  | 0, _ => rfl
  | 1, _ => rfl
  | 2, _ => rfl
  | 3, _ => rfl
  | 4, _ => rfl
  | 5, _ => rfl
  | 6, _ => rfl
  | 7, _ => rfl
  | 8, _ => rfl
  | 9, _ => rfl
  | 10, _ => rfl
  | 11, _ => rfl
  | 12, _ => rfl
  | 13, _ => rfl
  | 14, _ => rfl
  | 15, _ => rfl
  | 16, _ => rfl
  | 17, _ => rfl
  | 18, _ => rfl
  | 19, _ => rfl
  | n + 20, h => exact absurd h (by omega)
theorem N20.gd_u14 (f : α → α) (n : N20 α) (i : Nat) (hi : i < 20) : N20.gd i (N20.u14 f n) = if i = 14 then f (N20.gd i n) else N20.gd i n := by
  cases n; match i, hi with
  | 0, _ => rfl
  | 1, _ => rfl
  | 2, _ => rfl
  | 3, _ => rfl
  | 4, _ => rfl
  | 5, _ => rfl
  | 6, _ => rfl
  | 7, _ => rfl
  | 8, _ => rfl
  | 9, _ => rfl
  | 10, _ => rfl
  | 11, _ => rfl
  | 12, _ => rfl
  | 13, _ => rfl
  | 14, _ => rfl
  | 15, _ => rfl
  | 16, _ => rfl
  | 17, _ => rfl
  | 18, _ => rfl
  | 19, _ => rfl
  | n + 20, h => exact absurd h (by omega)
theorem N20.gd_u15 (f : α → α) (n : N20 α) (i : Nat) (hi : i < 20) : N20.gd i (N20.u15 f n) = if i = 15 then f (N20.gd i n) else N20.gd i n := by
  cases n; match i, hi with
  | 0, _ => rfl
  | 1, _ => rfl
  | 2, _ => rfl
  | 3, _ => rfl
  | 4, _ => rfl
  | 5, _ => rfl
  | 6, _ => rfl
  | 7, _ => rfl
  | 8, _ => rfl
  | 9, _ => rfl
  | 10, _ => rfl
  | 11, _ => rfl
  | 12, _ => rfl
  | 13, _ => rfl
  | 14, _ => rfl
  | 15, _ => rfl
  | 16, _ => rfl
  | 17, _ => rfl
  | 18, _ => rfl
  | 19, _ => rfl
  | n + 20, h => exact absurd h (by omega)
theorem N20.gd_u16 (f : α → α) (n : N20 α) (i : Nat) (hi : i < 20) : N20.gd i (N20.u16 f n) = if i = 16 then f (N20.gd i n) else N20.gd i n := by
  cases n; match i, hi with
  | 0, _ => rfl
  | 1, _ => rfl
  | 2, _ => rfl
  | 3, _ => rfl
  | 4, _ => rfl
  | 5, _ => rfl
  | 6, _ => rfl
  | 7, _ => rfl
  | 8, _ => rfl
  | 9, _ => rfl
  | 10, _ => rfl
  | 11, _ => rfl
  | 12, _ => rfl
  | 13, _ => rfl
  | 14, _ => rfl
  | 15, _ => rfl
  | 16, _ => rfl
  | 17, _ => rfl
  | 18, _ => rfl
  | 19, _ => rfl
  | n + 20, h => exact absurd h (by omega)
theorem N20.gd_u17 (f : α → α) (n : N20 α) (i : Nat) (hi : i < 20) : N20.gd i (N20.u17 f n) = if i = 17 then f (N20.gd i n) else N20.gd i n := by
  cases n; match i, hi with
  | 0, _ => rfl
  | 1, _ => rfl
  | 2, _ => rfl
  | 3, _ => rfl
  | 4, _ => rfl
  | 5, _ => rfl
  | 6, _ => rfl
  | 7, _ => rfl
  | 8, _ => rfl
  | 9, _ => rfl
  | 10, _ => rfl
  | 11, _ => rfl
  | 12, _ => rfl
  | 13, _ => rfl
  | 14, _ => rfl
  | 15, _ => rfl
  | 16, _ => rfl
  | 17, _ => rfl
  | 18, _ => rfl
  | 19, _ => rfl
  | n + 20, h => exact absurd h (by omega)
theorem N20.gd_u18 (f : α → α) (n : N20 α) (i : Nat) (hi : i < 20) : N20.gd i (N20.u18 f n) = if i = 18 then f (N20.gd i n) else N20.gd i n := by
  cases n; match i, hi with
  | 0, _ => rfl
  | 1, _ => rfl
  | 2, _ => rfl
  | 3, _ => rfl
  | 4, _ => rfl
  | 5, _ => rfl
  | 6, _ => rfl
  | 7, _ => rfl
  | 8, _ => rfl
  | 9, _ => rfl
  | 10, _ => rfl
  | 11, _ => rfl
  | 12, _ => rfl
  | 13, _ => rfl
  | 14, _ => rfl
  | 15, _ => rfl
  | 16, _ => rfl
  | 17, _ => rfl
  | 18, _ => rfl
  | 19, _ => rfl
  | n + 20, h => exact absurd h (by omega)
theorem N20.gd_u19 (f : α → α) (n : N20 α) (i : Nat) (hi : i < 20) : N20.gd i (N20.u19 f n) = if i = 19 then f (N20.gd i n) else N20.gd i n := by
  cases n; match i, hi with
  | 0, _ => rfl
  | 1, _ => rfl
  | 2, _ => rfl
  | 3, _ => rfl
  | 4, _ => rfl
  | 5, _ => rfl
  | 6, _ => rfl
  | 7, _ => rfl
  | 8, _ => rfl
  | 9, _ => rfl
  | 10, _ => rfl
  | 11, _ => rfl
  | 12, _ => rfl
  | 13, _ => rfl
  | 14, _ => rfl
  | 15, _ => rfl
  | 16, _ => rfl
  | 17, _ => rfl
  | 18, _ => rfl
  | 19, _ => rfl
  | n + 20, h => exact absurd h (by omega)
theorem N20.gd_ud (f : α → α) (n : N20 α) (i j : Nat) (hi : i < 20) (hj : j < 20) : N20.gd i (N20.ud j f n) = if i = j then f (N20.gd i n) else N20.gd i n := by
  match j, hj with
  | 0, _ => exact N20.gd_u0 f n i hi
  | 1, _ => exact N20.gd_u1 f n i hi
  | 2, _ => exact N20.gd_u2 f n i hi
  | 3, _ => exact N20.gd_u3 f n i hi
  | 4, _ => exact N20.gd_u4 f n i hi
  | 5, _ => exact N20.gd_u5 f n i hi
  | 6, _ => exact N20.gd_u6 f n i hi
  | 7, _ => exact N20.gd_u7 f n i hi
  | 8, _ => exact N20.gd_u8 f n i hi
  | 9, _ => exact N20.gd_u9 f n i hi
  | 10, _ => exact N20.gd_u10 f n i hi
  | 11, _ => exact N20.gd_u11 f n i hi
  | 12, _ => exact N20.gd_u12 f n i hi
  | 13, _ => exact N20.gd_u13 f n i hi
  | 14, _ => exact N20.gd_u14 f n i hi
  | 15, _ => exact N20.gd_u15 f n i hi
  | 16, _ => exact N20.gd_u16 f n i hi
  | 17, _ => exact N20.gd_u17 f n i hi
  | 18, _ => exact N20.gd_u18 f n i hi
  | 19, _ => exact N20.gd_u19 f n i hi
  | n + 20, h => exact absurd h (by omega)
theorem N20.gd_tab (f : Nat → α) (i : Nat) (hi : i < 20) : N20.gd i (N20.tab f) = f i := by
  match i, hi with
  | 0, _ => rfl
  | 1, _ => rfl
  | 2, _ => rfl
  | 3, _ => rfl
  | 4, _ => rfl
  | 5, _ => rfl
  | 6, _ => rfl
  | 7, _ => rfl
  | 8, _ => rfl
  | 9, _ => rfl
  | 10, _ => rfl
  | 11, _ => rfl
  | 12, _ => rfl
  | 13, _ => rfl
  | 14, _ => rfl
  | 15, _ => rfl
  | 16, _ => rfl
  | 17, _ => rfl
  | 18, _ => rfl
  | 19, _ => rfl
  | n + 20, h => exact absurd h (by omega)
end

abbrev E := N20 (N20 AV)
structure Acc (Γ : Type) where
  run : Γ → AV
structure Stt where
  run : AV → E → E

def getE (t : Nat) (e : E) : AV := N20.gd (Nat.mod t 20) (N20.gd (Nat.div t 20) e)
def updE (t : Nat) (v : AV) (e : E) : E := N20.ud (Nat.div t 20) (N20.ud (Nat.mod t 20) (fun _ => v)) e

theorem getE_updE (s t : Nat) (v : AV) (e : E) (hs : s < 400) (ht : t < 400) : getE s (updE t v e) = if s = t then v else getE s e := by
  show N20.gd (s % 20) (N20.gd (s / 20) (N20.ud (t / 20) (N20.ud (t % 20) (fun _ => v)) e)) = if s = t then v else N20.gd (s % 20) (N20.gd (s / 20) e)
  rw [N20.gd_ud _ _ _ _ (by omega) (by omega)]
  by_cases h : s / 20 = t / 20
  · rw [if_pos h, N20.gd_ud _ _ _ _ (by omega) (by omega)]
    by_cases h2 : s % 20 = t % 20
    · rw [if_pos h2, if_pos (by omega)]
    · rw [if_neg h2, if_neg (by omega)]
  · rw [if_neg h, if_neg (by omega)]

def accT0 : N20 (Acc E) := N20.mk ⟨fun e => e.x0.x0⟩ ⟨fun e => e.x0.x1⟩ ⟨fun e => e.x0.x2⟩ ⟨fun e => e.x0.x3⟩ ⟨fun e => e.x0.x4⟩ ⟨fun e => e.x0.x5⟩ ⟨fun e => e.x0.x6⟩ ⟨fun e => e.x0.x7⟩ ⟨fun e => e.x0.x8⟩ ⟨fun e => e.x0.x9⟩ ⟨fun e => e.x0.x10⟩ ⟨fun e => e.x0.x11⟩ ⟨fun e => e.x0.x12⟩ ⟨fun e => e.x0.x13⟩ ⟨fun e => e.x0.x14⟩ ⟨fun e => e.x0.x15⟩ ⟨fun e => e.x0.x16⟩ ⟨fun e => e.x0.x17⟩ ⟨fun e => e.x0.x18⟩ ⟨fun e => e.x0.x19⟩
def sttT0 : N20 Stt := N20.mk ⟨fun v e => N20.u0 (N20.s0 v) e⟩ ⟨fun v e => N20.u0 (N20.s1 v) e⟩ ⟨fun v e => N20.u0 (N20.s2 v) e⟩ ⟨fun v e => N20.u0 (N20.s3 v) e⟩ ⟨fun v e => N20.u0 (N20.s4 v) e⟩ ⟨fun v e => N20.u0 (N20.s5 v) e⟩ ⟨fun v e => N20.u0 (N20.s6 v) e⟩ ⟨fun v e => N20.u0 (N20.s7 v) e⟩ ⟨fun v e => N20.u0 (N20.s8 v) e⟩ ⟨fun v e => N20.u0 (N20.s9 v) e⟩ ⟨fun v e => N20.u0 (N20.s10 v) e⟩ ⟨fun v e => N20.u0 (N20.s11 v) e⟩ ⟨fun v e => N20.u0 (N20.s12 v) e⟩ ⟨fun v e => N20.u0 (N20.s13 v) e⟩ ⟨fun v e => N20.u0 (N20.s14 v) e⟩ ⟨fun v e => N20.u0 (N20.s15 v) e⟩ ⟨fun v e => N20.u0 (N20.s16 v) e⟩ ⟨fun v e => N20.u0 (N20.s17 v) e⟩ ⟨fun v e => N20.u0 (N20.s18 v) e⟩ ⟨fun v e => N20.u0 (N20.s19 v) e⟩
def accT1 : N20 (Acc E) := N20.mk ⟨fun e => e.x1.x0⟩ ⟨fun e => e.x1.x1⟩ ⟨fun e => e.x1.x2⟩ ⟨fun e => e.x1.x3⟩ ⟨fun e => e.x1.x4⟩ ⟨fun e => e.x1.x5⟩ ⟨fun e => e.x1.x6⟩ ⟨fun e => e.x1.x7⟩ ⟨fun e => e.x1.x8⟩ ⟨fun e => e.x1.x9⟩ ⟨fun e => e.x1.x10⟩ ⟨fun e => e.x1.x11⟩ ⟨fun e => e.x1.x12⟩ ⟨fun e => e.x1.x13⟩ ⟨fun e => e.x1.x14⟩ ⟨fun e => e.x1.x15⟩ ⟨fun e => e.x1.x16⟩ ⟨fun e => e.x1.x17⟩ ⟨fun e => e.x1.x18⟩ ⟨fun e => e.x1.x19⟩
def sttT1 : N20 Stt := N20.mk ⟨fun v e => N20.u1 (N20.s0 v) e⟩ ⟨fun v e => N20.u1 (N20.s1 v) e⟩ ⟨fun v e => N20.u1 (N20.s2 v) e⟩ ⟨fun v e => N20.u1 (N20.s3 v) e⟩ ⟨fun v e => N20.u1 (N20.s4 v) e⟩ ⟨fun v e => N20.u1 (N20.s5 v) e⟩ ⟨fun v e => N20.u1 (N20.s6 v) e⟩ ⟨fun v e => N20.u1 (N20.s7 v) e⟩ ⟨fun v e => N20.u1 (N20.s8 v) e⟩ ⟨fun v e => N20.u1 (N20.s9 v) e⟩ ⟨fun v e => N20.u1 (N20.s10 v) e⟩ ⟨fun v e => N20.u1 (N20.s11 v) e⟩ ⟨fun v e => N20.u1 (N20.s12 v) e⟩ ⟨fun v e => N20.u1 (N20.s13 v) e⟩ ⟨fun v e => N20.u1 (N20.s14 v) e⟩ ⟨fun v e => N20.u1 (N20.s15 v) e⟩ ⟨fun v e => N20.u1 (N20.s16 v) e⟩ ⟨fun v e => N20.u1 (N20.s17 v) e⟩ ⟨fun v e => N20.u1 (N20.s18 v) e⟩ ⟨fun v e => N20.u1 (N20.s19 v) e⟩
def accT2 : N20 (Acc E) := N20.mk ⟨fun e => e.x2.x0⟩ ⟨fun e => e.x2.x1⟩ ⟨fun e => e.x2.x2⟩ ⟨fun e => e.x2.x3⟩ ⟨fun e => e.x2.x4⟩ ⟨fun e => e.x2.x5⟩ ⟨fun e => e.x2.x6⟩ ⟨fun e => e.x2.x7⟩ ⟨fun e => e.x2.x8⟩ ⟨fun e => e.x2.x9⟩ ⟨fun e => e.x2.x10⟩ ⟨fun e => e.x2.x11⟩ ⟨fun e => e.x2.x12⟩ ⟨fun e => e.x2.x13⟩ ⟨fun e => e.x2.x14⟩ ⟨fun e => e.x2.x15⟩ ⟨fun e => e.x2.x16⟩ ⟨fun e => e.x2.x17⟩ ⟨fun e => e.x2.x18⟩ ⟨fun e => e.x2.x19⟩
def sttT2 : N20 Stt := N20.mk ⟨fun v e => N20.u2 (N20.s0 v) e⟩ ⟨fun v e => N20.u2 (N20.s1 v) e⟩ ⟨fun v e => N20.u2 (N20.s2 v) e⟩ ⟨fun v e => N20.u2 (N20.s3 v) e⟩ ⟨fun v e => N20.u2 (N20.s4 v) e⟩ ⟨fun v e => N20.u2 (N20.s5 v) e⟩ ⟨fun v e => N20.u2 (N20.s6 v) e⟩ ⟨fun v e => N20.u2 (N20.s7 v) e⟩ ⟨fun v e => N20.u2 (N20.s8 v) e⟩ ⟨fun v e => N20.u2 (N20.s9 v) e⟩ ⟨fun v e => N20.u2 (N20.s10 v) e⟩ ⟨fun v e => N20.u2 (N20.s11 v) e⟩ ⟨fun v e => N20.u2 (N20.s12 v) e⟩ ⟨fun v e => N20.u2 (N20.s13 v) e⟩ ⟨fun v e => N20.u2 (N20.s14 v) e⟩ ⟨fun v e => N20.u2 (N20.s15 v) e⟩ ⟨fun v e => N20.u2 (N20.s16 v) e⟩ ⟨fun v e => N20.u2 (N20.s17 v) e⟩ ⟨fun v e => N20.u2 (N20.s18 v) e⟩ ⟨fun v e => N20.u2 (N20.s19 v) e⟩
def accT3 : N20 (Acc E) := N20.mk ⟨fun e => e.x3.x0⟩ ⟨fun e => e.x3.x1⟩ ⟨fun e => e.x3.x2⟩ ⟨fun e => e.x3.x3⟩ ⟨fun e => e.x3.x4⟩ ⟨fun e => e.x3.x5⟩ ⟨fun e => e.x3.x6⟩ ⟨fun e => e.x3.x7⟩ ⟨fun e => e.x3.x8⟩ ⟨fun e => e.x3.x9⟩ ⟨fun e => e.x3.x10⟩ ⟨fun e => e.x3.x11⟩ ⟨fun e => e.x3.x12⟩ ⟨fun e => e.x3.x13⟩ ⟨fun e => e.x3.x14⟩ ⟨fun e => e.x3.x15⟩ ⟨fun e => e.x3.x16⟩ ⟨fun e => e.x3.x17⟩ ⟨fun e => e.x3.x18⟩ ⟨fun e => e.x3.x19⟩
def sttT3 : N20 Stt := N20.mk ⟨fun v e => N20.u3 (N20.s0 v) e⟩ ⟨fun v e => N20.u3 (N20.s1 v) e⟩ ⟨fun v e => N20.u3 (N20.s2 v) e⟩ ⟨fun v e => N20.u3 (N20.s3 v) e⟩ ⟨fun v e => N20.u3 (N20.s4 v) e⟩ ⟨fun v e => N20.u3 (N20.s5 v) e⟩ ⟨fun v e => N20.u3 (N20.s6 v) e⟩ ⟨fun v e => N20.u3 (N20.s7 v) e⟩ ⟨fun v e => N20.u3 (N20.s8 v) e⟩ ⟨fun v e => N20.u3 (N20.s9 v) e⟩ ⟨fun v e => N20.u3 (N20.s10 v) e⟩ ⟨fun v e => N20.u3 (N20.s11 v) e⟩ ⟨fun v e => N20.u3 (N20.s12 v) e⟩ ⟨fun v e => N20.u3 (N20.s13 v) e⟩ ⟨fun v e => N20.u3 (N20.s14 v) e⟩ ⟨fun v e => N20.u3 (N20.s15 v) e⟩ ⟨fun v e => N20.u3 (N20.s16 v) e⟩ ⟨fun v e => N20.u3 (N20.s17 v) e⟩ ⟨fun v e => N20.u3 (N20.s18 v) e⟩ ⟨fun v e => N20.u3 (N20.s19 v) e⟩
def accT4 : N20 (Acc E) := N20.mk ⟨fun e => e.x4.x0⟩ ⟨fun e => e.x4.x1⟩ ⟨fun e => e.x4.x2⟩ ⟨fun e => e.x4.x3⟩ ⟨fun e => e.x4.x4⟩ ⟨fun e => e.x4.x5⟩ ⟨fun e => e.x4.x6⟩ ⟨fun e => e.x4.x7⟩ ⟨fun e => e.x4.x8⟩ ⟨fun e => e.x4.x9⟩ ⟨fun e => e.x4.x10⟩ ⟨fun e => e.x4.x11⟩ ⟨fun e => e.x4.x12⟩ ⟨fun e => e.x4.x13⟩ ⟨fun e => e.x4.x14⟩ ⟨fun e => e.x4.x15⟩ ⟨fun e => e.x4.x16⟩ ⟨fun e => e.x4.x17⟩ ⟨fun e => e.x4.x18⟩ ⟨fun e => e.x4.x19⟩
def sttT4 : N20 Stt := N20.mk ⟨fun v e => N20.u4 (N20.s0 v) e⟩ ⟨fun v e => N20.u4 (N20.s1 v) e⟩ ⟨fun v e => N20.u4 (N20.s2 v) e⟩ ⟨fun v e => N20.u4 (N20.s3 v) e⟩ ⟨fun v e => N20.u4 (N20.s4 v) e⟩ ⟨fun v e => N20.u4 (N20.s5 v) e⟩ ⟨fun v e => N20.u4 (N20.s6 v) e⟩ ⟨fun v e => N20.u4 (N20.s7 v) e⟩ ⟨fun v e => N20.u4 (N20.s8 v) e⟩ ⟨fun v e => N20.u4 (N20.s9 v) e⟩ ⟨fun v e => N20.u4 (N20.s10 v) e⟩ ⟨fun v e => N20.u4 (N20.s11 v) e⟩ ⟨fun v e => N20.u4 (N20.s12 v) e⟩ ⟨fun v e => N20.u4 (N20.s13 v) e⟩ ⟨fun v e => N20.u4 (N20.s14 v) e⟩ ⟨fun v e => N20.u4 (N20.s15 v) e⟩ ⟨fun v e => N20.u4 (N20.s16 v) e⟩ ⟨fun v e => N20.u4 (N20.s17 v) e⟩ ⟨fun v e => N20.u4 (N20.s18 v) e⟩ ⟨fun v e => N20.u4 (N20.s19 v) e⟩
def accT5 : N20 (Acc E) := N20.mk ⟨fun e => e.x5.x0⟩ ⟨fun e => e.x5.x1⟩ ⟨fun e => e.x5.x2⟩ ⟨fun e => e.x5.x3⟩ ⟨fun e => e.x5.x4⟩ ⟨fun e => e.x5.x5⟩ ⟨fun e => e.x5.x6⟩ ⟨fun e => e.x5.x7⟩ ⟨fun e => e.x5.x8⟩ ⟨fun e => e.x5.x9⟩ ⟨fun e => e.x5.x10⟩ ⟨fun e => e.x5.x11⟩ ⟨fun e => e.x5.x12⟩ ⟨fun e => e.x5.x13⟩ ⟨fun e => e.x5.x14⟩ ⟨fun e => e.x5.x15⟩ ⟨fun e => e.x5.x16⟩ ⟨fun e => e.x5.x17⟩ ⟨fun e => e.x5.x18⟩ ⟨fun e => e.x5.x19⟩
def sttT5 : N20 Stt := N20.mk ⟨fun v e => N20.u5 (N20.s0 v) e⟩ ⟨fun v e => N20.u5 (N20.s1 v) e⟩ ⟨fun v e => N20.u5 (N20.s2 v) e⟩ ⟨fun v e => N20.u5 (N20.s3 v) e⟩ ⟨fun v e => N20.u5 (N20.s4 v) e⟩ ⟨fun v e => N20.u5 (N20.s5 v) e⟩ ⟨fun v e => N20.u5 (N20.s6 v) e⟩ ⟨fun v e => N20.u5 (N20.s7 v) e⟩ ⟨fun v e => N20.u5 (N20.s8 v) e⟩ ⟨fun v e => N20.u5 (N20.s9 v) e⟩ ⟨fun v e => N20.u5 (N20.s10 v) e⟩ ⟨fun v e => N20.u5 (N20.s11 v) e⟩ ⟨fun v e => N20.u5 (N20.s12 v) e⟩ ⟨fun v e => N20.u5 (N20.s13 v) e⟩ ⟨fun v e => N20.u5 (N20.s14 v) e⟩ ⟨fun v e => N20.u5 (N20.s15 v) e⟩ ⟨fun v e => N20.u5 (N20.s16 v) e⟩ ⟨fun v e => N20.u5 (N20.s17 v) e⟩ ⟨fun v e => N20.u5 (N20.s18 v) e⟩ ⟨fun v e => N20.u5 (N20.s19 v) e⟩
def accT6 : N20 (Acc E) := N20.mk ⟨fun e => e.x6.x0⟩ ⟨fun e => e.x6.x1⟩ ⟨fun e => e.x6.x2⟩ ⟨fun e => e.x6.x3⟩ ⟨fun e => e.x6.x4⟩ ⟨fun e => e.x6.x5⟩ ⟨fun e => e.x6.x6⟩ ⟨fun e => e.x6.x7⟩ ⟨fun e => e.x6.x8⟩ ⟨fun e => e.x6.x9⟩ ⟨fun e => e.x6.x10⟩ ⟨fun e => e.x6.x11⟩ ⟨fun e => e.x6.x12⟩ ⟨fun e => e.x6.x13⟩ ⟨fun e => e.x6.x14⟩ ⟨fun e => e.x6.x15⟩ ⟨fun e => e.x6.x16⟩ ⟨fun e => e.x6.x17⟩ ⟨fun e => e.x6.x18⟩ ⟨fun e => e.x6.x19⟩
def sttT6 : N20 Stt := N20.mk ⟨fun v e => N20.u6 (N20.s0 v) e⟩ ⟨fun v e => N20.u6 (N20.s1 v) e⟩ ⟨fun v e => N20.u6 (N20.s2 v) e⟩ ⟨fun v e => N20.u6 (N20.s3 v) e⟩ ⟨fun v e => N20.u6 (N20.s4 v) e⟩ ⟨fun v e => N20.u6 (N20.s5 v) e⟩ ⟨fun v e => N20.u6 (N20.s6 v) e⟩ ⟨fun v e => N20.u6 (N20.s7 v) e⟩ ⟨fun v e => N20.u6 (N20.s8 v) e⟩ ⟨fun v e => N20.u6 (N20.s9 v) e⟩ ⟨fun v e => N20.u6 (N20.s10 v) e⟩ ⟨fun v e => N20.u6 (N20.s11 v) e⟩ ⟨fun v e => N20.u6 (N20.s12 v) e⟩ ⟨fun v e => N20.u6 (N20.s13 v) e⟩ ⟨fun v e => N20.u6 (N20.s14 v) e⟩ ⟨fun v e => N20.u6 (N20.s15 v) e⟩ ⟨fun v e => N20.u6 (N20.s16 v) e⟩ ⟨fun v e => N20.u6 (N20.s17 v) e⟩ ⟨fun v e => N20.u6 (N20.s18 v) e⟩ ⟨fun v e => N20.u6 (N20.s19 v) e⟩
def accT7 : N20 (Acc E) := N20.mk ⟨fun e => e.x7.x0⟩ ⟨fun e => e.x7.x1⟩ ⟨fun e => e.x7.x2⟩ ⟨fun e => e.x7.x3⟩ ⟨fun e => e.x7.x4⟩ ⟨fun e => e.x7.x5⟩ ⟨fun e => e.x7.x6⟩ ⟨fun e => e.x7.x7⟩ ⟨fun e => e.x7.x8⟩ ⟨fun e => e.x7.x9⟩ ⟨fun e => e.x7.x10⟩ ⟨fun e => e.x7.x11⟩ ⟨fun e => e.x7.x12⟩ ⟨fun e => e.x7.x13⟩ ⟨fun e => e.x7.x14⟩ ⟨fun e => e.x7.x15⟩ ⟨fun e => e.x7.x16⟩ ⟨fun e => e.x7.x17⟩ ⟨fun e => e.x7.x18⟩ ⟨fun e => e.x7.x19⟩
def sttT7 : N20 Stt := N20.mk ⟨fun v e => N20.u7 (N20.s0 v) e⟩ ⟨fun v e => N20.u7 (N20.s1 v) e⟩ ⟨fun v e => N20.u7 (N20.s2 v) e⟩ ⟨fun v e => N20.u7 (N20.s3 v) e⟩ ⟨fun v e => N20.u7 (N20.s4 v) e⟩ ⟨fun v e => N20.u7 (N20.s5 v) e⟩ ⟨fun v e => N20.u7 (N20.s6 v) e⟩ ⟨fun v e => N20.u7 (N20.s7 v) e⟩ ⟨fun v e => N20.u7 (N20.s8 v) e⟩ ⟨fun v e => N20.u7 (N20.s9 v) e⟩ ⟨fun v e => N20.u7 (N20.s10 v) e⟩ ⟨fun v e => N20.u7 (N20.s11 v) e⟩ ⟨fun v e => N20.u7 (N20.s12 v) e⟩ ⟨fun v e => N20.u7 (N20.s13 v) e⟩ ⟨fun v e => N20.u7 (N20.s14 v) e⟩ ⟨fun v e => N20.u7 (N20.s15 v) e⟩ ⟨fun v e => N20.u7 (N20.s16 v) e⟩ ⟨fun v e => N20.u7 (N20.s17 v) e⟩ ⟨fun v e => N20.u7 (N20.s18 v) e⟩ ⟨fun v e => N20.u7 (N20.s19 v) e⟩
def accT8 : N20 (Acc E) := N20.mk ⟨fun e => e.x8.x0⟩ ⟨fun e => e.x8.x1⟩ ⟨fun e => e.x8.x2⟩ ⟨fun e => e.x8.x3⟩ ⟨fun e => e.x8.x4⟩ ⟨fun e => e.x8.x5⟩ ⟨fun e => e.x8.x6⟩ ⟨fun e => e.x8.x7⟩ ⟨fun e => e.x8.x8⟩ ⟨fun e => e.x8.x9⟩ ⟨fun e => e.x8.x10⟩ ⟨fun e => e.x8.x11⟩ ⟨fun e => e.x8.x12⟩ ⟨fun e => e.x8.x13⟩ ⟨fun e => e.x8.x14⟩ ⟨fun e => e.x8.x15⟩ ⟨fun e => e.x8.x16⟩ ⟨fun e => e.x8.x17⟩ ⟨fun e => e.x8.x18⟩ ⟨fun e => e.x8.x19⟩
def sttT8 : N20 Stt := N20.mk ⟨fun v e => N20.u8 (N20.s0 v) e⟩ ⟨fun v e => N20.u8 (N20.s1 v) e⟩ ⟨fun v e => N20.u8 (N20.s2 v) e⟩ ⟨fun v e => N20.u8 (N20.s3 v) e⟩ ⟨fun v e => N20.u8 (N20.s4 v) e⟩ ⟨fun v e => N20.u8 (N20.s5 v) e⟩ ⟨fun v e => N20.u8 (N20.s6 v) e⟩ ⟨fun v e => N20.u8 (N20.s7 v) e⟩ ⟨fun v e => N20.u8 (N20.s8 v) e⟩ ⟨fun v e => N20.u8 (N20.s9 v) e⟩ ⟨fun v e => N20.u8 (N20.s10 v) e⟩ ⟨fun v e => N20.u8 (N20.s11 v) e⟩ ⟨fun v e => N20.u8 (N20.s12 v) e⟩ ⟨fun v e => N20.u8 (N20.s13 v) e⟩ ⟨fun v e => N20.u8 (N20.s14 v) e⟩ ⟨fun v e => N20.u8 (N20.s15 v) e⟩ ⟨fun v e => N20.u8 (N20.s16 v) e⟩ ⟨fun v e => N20.u8 (N20.s17 v) e⟩ ⟨fun v e => N20.u8 (N20.s18 v) e⟩ ⟨fun v e => N20.u8 (N20.s19 v) e⟩
def accT9 : N20 (Acc E) := N20.mk ⟨fun e => e.x9.x0⟩ ⟨fun e => e.x9.x1⟩ ⟨fun e => e.x9.x2⟩ ⟨fun e => e.x9.x3⟩ ⟨fun e => e.x9.x4⟩ ⟨fun e => e.x9.x5⟩ ⟨fun e => e.x9.x6⟩ ⟨fun e => e.x9.x7⟩ ⟨fun e => e.x9.x8⟩ ⟨fun e => e.x9.x9⟩ ⟨fun e => e.x9.x10⟩ ⟨fun e => e.x9.x11⟩ ⟨fun e => e.x9.x12⟩ ⟨fun e => e.x9.x13⟩ ⟨fun e => e.x9.x14⟩ ⟨fun e => e.x9.x15⟩ ⟨fun e => e.x9.x16⟩ ⟨fun e => e.x9.x17⟩ ⟨fun e => e.x9.x18⟩ ⟨fun e => e.x9.x19⟩
def sttT9 : N20 Stt := N20.mk ⟨fun v e => N20.u9 (N20.s0 v) e⟩ ⟨fun v e => N20.u9 (N20.s1 v) e⟩ ⟨fun v e => N20.u9 (N20.s2 v) e⟩ ⟨fun v e => N20.u9 (N20.s3 v) e⟩ ⟨fun v e => N20.u9 (N20.s4 v) e⟩ ⟨fun v e => N20.u9 (N20.s5 v) e⟩ ⟨fun v e => N20.u9 (N20.s6 v) e⟩ ⟨fun v e => N20.u9 (N20.s7 v) e⟩ ⟨fun v e => N20.u9 (N20.s8 v) e⟩ ⟨fun v e => N20.u9 (N20.s9 v) e⟩ ⟨fun v e => N20.u9 (N20.s10 v) e⟩ ⟨fun v e => N20.u9 (N20.s11 v) e⟩ ⟨fun v e => N20.u9 (N20.s12 v) e⟩ ⟨fun v e => N20.u9 (N20.s13 v) e⟩ ⟨fun v e => N20.u9 (N20.s14 v) e⟩ ⟨fun v e => N20.u9 (N20.s15 v) e⟩ ⟨fun v e => N20.u9 (N20.s16 v) e⟩ ⟨fun v e => N20.u9 (N20.s17 v) e⟩ ⟨fun v e => N20.u9 (N20.s18 v) e⟩ ⟨fun v e => N20.u9 (N20.s19 v) e⟩
def accT10 : N20 (Acc E) := N20.mk ⟨fun e => e.x10.x0⟩ ⟨fun e => e.x10.x1⟩ ⟨fun e => e.x10.x2⟩ ⟨fun e => e.x10.x3⟩ ⟨fun e => e.x10.x4⟩ ⟨fun e => e.x10.x5⟩ ⟨fun e => e.x10.x6⟩ ⟨fun e => e.x10.x7⟩ ⟨fun e => e.x10.x8⟩ ⟨fun e => e.x10.x9⟩ ⟨fun e => e.x10.x10⟩ ⟨fun e => e.x10.x11⟩ ⟨fun e => e.x10.x12⟩ ⟨fun e => e.x10.x13⟩ ⟨fun e => e.x10.x14⟩ ⟨fun e => e.x10.x15⟩ ⟨fun e => e.x10.x16⟩ ⟨fun e => e.x10.x17⟩ ⟨fun e => e.x10.x18⟩ ⟨fun e => e.x10.x19⟩
def sttT10 : N20 Stt := N20.mk ⟨fun v e => N20.u10 (N20.s0 v) e⟩ ⟨fun v e => N20.u10 (N20.s1 v) e⟩ ⟨fun v e => N20.u10 (N20.s2 v) e⟩ ⟨fun v e => N20.u10 (N20.s3 v) e⟩ ⟨fun v e => N20.u10 (N20.s4 v) e⟩ ⟨fun v e => N20.u10 (N20.s5 v) e⟩ ⟨fun v e => N20.u10 (N20.s6 v) e⟩ ⟨fun v e => N20.u10 (N20.s7 v) e⟩ ⟨fun v e => N20.u10 (N20.s8 v) e⟩ ⟨fun v e => N20.u10 (N20.s9 v) e⟩ ⟨fun v e => N20.u10 (N20.s10 v) e⟩ ⟨fun v e => N20.u10 (N20.s11 v) e⟩ ⟨fun v e => N20.u10 (N20.s12 v) e⟩ ⟨fun v e => N20.u10 (N20.s13 v) e⟩ ⟨fun v e => N20.u10 (N20.s14 v) e⟩ ⟨fun v e => N20.u10 (N20.s15 v) e⟩ ⟨fun v e => N20.u10 (N20.s16 v) e⟩ ⟨fun v e => N20.u10 (N20.s17 v) e⟩ ⟨fun v e => N20.u10 (N20.s18 v) e⟩ ⟨fun v e => N20.u10 (N20.s19 v) e⟩
def accT11 : N20 (Acc E) := N20.mk ⟨fun e => e.x11.x0⟩ ⟨fun e => e.x11.x1⟩ ⟨fun e => e.x11.x2⟩ ⟨fun e => e.x11.x3⟩ ⟨fun e => e.x11.x4⟩ ⟨fun e => e.x11.x5⟩ ⟨fun e => e.x11.x6⟩ ⟨fun e => e.x11.x7⟩ ⟨fun e => e.x11.x8⟩ ⟨fun e => e.x11.x9⟩ ⟨fun e => e.x11.x10⟩ ⟨fun e => e.x11.x11⟩ ⟨fun e => e.x11.x12⟩ ⟨fun e => e.x11.x13⟩ ⟨fun e => e.x11.x14⟩ ⟨fun e => e.x11.x15⟩ ⟨fun e => e.x11.x16⟩ ⟨fun e => e.x11.x17⟩ ⟨fun e => e.x11.x18⟩ ⟨fun e => e.x11.x19⟩
def sttT11 : N20 Stt := N20.mk ⟨fun v e => N20.u11 (N20.s0 v) e⟩ ⟨fun v e => N20.u11 (N20.s1 v) e⟩ ⟨fun v e => N20.u11 (N20.s2 v) e⟩ ⟨fun v e => N20.u11 (N20.s3 v) e⟩ ⟨fun v e => N20.u11 (N20.s4 v) e⟩ ⟨fun v e => N20.u11 (N20.s5 v) e⟩ ⟨fun v e => N20.u11 (N20.s6 v) e⟩ ⟨fun v e => N20.u11 (N20.s7 v) e⟩ ⟨fun v e => N20.u11 (N20.s8 v) e⟩ ⟨fun v e => N20.u11 (N20.s9 v) e⟩ ⟨fun v e => N20.u11 (N20.s10 v) e⟩ ⟨fun v e => N20.u11 (N20.s11 v) e⟩ ⟨fun v e => N20.u11 (N20.s12 v) e⟩ ⟨fun v e => N20.u11 (N20.s13 v) e⟩ ⟨fun v e => N20.u11 (N20.s14 v) e⟩ ⟨fun v e => N20.u11 (N20.s15 v) e⟩ ⟨fun v e => N20.u11 (N20.s16 v) e⟩ ⟨fun v e => N20.u11 (N20.s17 v) e⟩ ⟨fun v e => N20.u11 (N20.s18 v) e⟩ ⟨fun v e => N20.u11 (N20.s19 v) e⟩
def accT12 : N20 (Acc E) := N20.mk ⟨fun e => e.x12.x0⟩ ⟨fun e => e.x12.x1⟩ ⟨fun e => e.x12.x2⟩ ⟨fun e => e.x12.x3⟩ ⟨fun e => e.x12.x4⟩ ⟨fun e => e.x12.x5⟩ ⟨fun e => e.x12.x6⟩ ⟨fun e => e.x12.x7⟩ ⟨fun e => e.x12.x8⟩ ⟨fun e => e.x12.x9⟩ ⟨fun e => e.x12.x10⟩ ⟨fun e => e.x12.x11⟩ ⟨fun e => e.x12.x12⟩ ⟨fun e => e.x12.x13⟩ ⟨fun e => e.x12.x14⟩ ⟨fun e => e.x12.x15⟩ ⟨fun e => e.x12.x16⟩ ⟨fun e => e.x12.x17⟩ ⟨fun e => e.x12.x18⟩ ⟨fun e => e.x12.x19⟩
def sttT12 : N20 Stt := N20.mk ⟨fun v e => N20.u12 (N20.s0 v) e⟩ ⟨fun v e => N20.u12 (N20.s1 v) e⟩ ⟨fun v e => N20.u12 (N20.s2 v) e⟩ ⟨fun v e => N20.u12 (N20.s3 v) e⟩ ⟨fun v e => N20.u12 (N20.s4 v) e⟩ ⟨fun v e => N20.u12 (N20.s5 v) e⟩ ⟨fun v e => N20.u12 (N20.s6 v) e⟩ ⟨fun v e => N20.u12 (N20.s7 v) e⟩ ⟨fun v e => N20.u12 (N20.s8 v) e⟩ ⟨fun v e => N20.u12 (N20.s9 v) e⟩ ⟨fun v e => N20.u12 (N20.s10 v) e⟩ ⟨fun v e => N20.u12 (N20.s11 v) e⟩ ⟨fun v e => N20.u12 (N20.s12 v) e⟩ ⟨fun v e => N20.u12 (N20.s13 v) e⟩ ⟨fun v e => N20.u12 (N20.s14 v) e⟩ ⟨fun v e => N20.u12 (N20.s15 v) e⟩ ⟨fun v e => N20.u12 (N20.s16 v) e⟩ ⟨fun v e => N20.u12 (N20.s17 v) e⟩ ⟨fun v e => N20.u12 (N20.s18 v) e⟩ ⟨fun v e => N20.u12 (N20.s19 v) e⟩
def accT13 : N20 (Acc E) := N20.mk ⟨fun e => e.x13.x0⟩ ⟨fun e => e.x13.x1⟩ ⟨fun e => e.x13.x2⟩ ⟨fun e => e.x13.x3⟩ ⟨fun e => e.x13.x4⟩ ⟨fun e => e.x13.x5⟩ ⟨fun e => e.x13.x6⟩ ⟨fun e => e.x13.x7⟩ ⟨fun e => e.x13.x8⟩ ⟨fun e => e.x13.x9⟩ ⟨fun e => e.x13.x10⟩ ⟨fun e => e.x13.x11⟩ ⟨fun e => e.x13.x12⟩ ⟨fun e => e.x13.x13⟩ ⟨fun e => e.x13.x14⟩ ⟨fun e => e.x13.x15⟩ ⟨fun e => e.x13.x16⟩ ⟨fun e => e.x13.x17⟩ ⟨fun e => e.x13.x18⟩ ⟨fun e => e.x13.x19⟩
def sttT13 : N20 Stt := N20.mk ⟨fun v e => N20.u13 (N20.s0 v) e⟩ ⟨fun v e => N20.u13 (N20.s1 v) e⟩ ⟨fun v e => N20.u13 (N20.s2 v) e⟩ ⟨fun v e => N20.u13 (N20.s3 v) e⟩ ⟨fun v e => N20.u13 (N20.s4 v) e⟩ ⟨fun v e => N20.u13 (N20.s5 v) e⟩ ⟨fun v e => N20.u13 (N20.s6 v) e⟩ ⟨fun v e => N20.u13 (N20.s7 v) e⟩ ⟨fun v e => N20.u13 (N20.s8 v) e⟩ ⟨fun v e => N20.u13 (N20.s9 v) e⟩ ⟨fun v e => N20.u13 (N20.s10 v) e⟩ ⟨fun v e => N20.u13 (N20.s11 v) e⟩ ⟨fun v e => N20.u13 (N20.s12 v) e⟩ ⟨fun v e => N20.u13 (N20.s13 v) e⟩ ⟨fun v e => N20.u13 (N20.s14 v) e⟩ ⟨fun v e => N20.u13 (N20.s15 v) e⟩ ⟨fun v e => N20.u13 (N20.s16 v) e⟩ ⟨fun v e => N20.u13 (N20.s17 v) e⟩ ⟨fun v e => N20.u13 (N20.s18 v) e⟩ ⟨fun v e => N20.u13 (N20.s19 v) e⟩
def accT14 : N20 (Acc E) := N20.mk ⟨fun e => e.x14.x0⟩ ⟨fun e => e.x14.x1⟩ ⟨fun e => e.x14.x2⟩ ⟨fun e => e.x14.x3⟩ ⟨fun e => e.x14.x4⟩ ⟨fun e => e.x14.x5⟩ ⟨fun e => e.x14.x6⟩ ⟨fun e => e.x14.x7⟩ ⟨fun e => e.x14.x8⟩ ⟨fun e => e.x14.x9⟩ ⟨fun e => e.x14.x10⟩ ⟨fun e => e.x14.x11⟩ ⟨fun e => e.x14.x12⟩ ⟨fun e => e.x14.x13⟩ ⟨fun e => e.x14.x14⟩ ⟨fun e => e.x14.x15⟩ ⟨fun e => e.x14.x16⟩ ⟨fun e => e.x14.x17⟩ ⟨fun e => e.x14.x18⟩ ⟨fun e => e.x14.x19⟩
def sttT14 : N20 Stt := N20.mk ⟨fun v e => N20.u14 (N20.s0 v) e⟩ ⟨fun v e => N20.u14 (N20.s1 v) e⟩ ⟨fun v e => N20.u14 (N20.s2 v) e⟩ ⟨fun v e => N20.u14 (N20.s3 v) e⟩ ⟨fun v e => N20.u14 (N20.s4 v) e⟩ ⟨fun v e => N20.u14 (N20.s5 v) e⟩ ⟨fun v e => N20.u14 (N20.s6 v) e⟩ ⟨fun v e => N20.u14 (N20.s7 v) e⟩ ⟨fun v e => N20.u14 (N20.s8 v) e⟩ ⟨fun v e => N20.u14 (N20.s9 v) e⟩ ⟨fun v e => N20.u14 (N20.s10 v) e⟩ ⟨fun v e => N20.u14 (N20.s11 v) e⟩ ⟨fun v e => N20.u14 (N20.s12 v) e⟩ ⟨fun v e => N20.u14 (N20.s13 v) e⟩ ⟨fun v e => N20.u14 (N20.s14 v) e⟩ ⟨fun v e => N20.u14 (N20.s15 v) e⟩ ⟨fun v e => N20.u14 (N20.s16 v) e⟩ ⟨fun v e => N20.u14 (N20.s17 v) e⟩ ⟨fun v e => N20.u14 (N20.s18 v) e⟩ ⟨fun v e => N20.u14 (N20.s19 v) e⟩
def accT15 : N20 (Acc E) := N20.mk ⟨fun e => e.x15.x0⟩ ⟨fun e => e.x15.x1⟩ ⟨fun e => e.x15.x2⟩ ⟨fun e => e.x15.x3⟩ ⟨fun e => e.x15.x4⟩ ⟨fun e => e.x15.x5⟩ ⟨fun e => e.x15.x6⟩ ⟨fun e => e.x15.x7⟩ ⟨fun e => e.x15.x8⟩ ⟨fun e => e.x15.x9⟩ ⟨fun e => e.x15.x10⟩ ⟨fun e => e.x15.x11⟩ ⟨fun e => e.x15.x12⟩ ⟨fun e => e.x15.x13⟩ ⟨fun e => e.x15.x14⟩ ⟨fun e => e.x15.x15⟩ ⟨fun e => e.x15.x16⟩ ⟨fun e => e.x15.x17⟩ ⟨fun e => e.x15.x18⟩ ⟨fun e => e.x15.x19⟩
def sttT15 : N20 Stt := N20.mk ⟨fun v e => N20.u15 (N20.s0 v) e⟩ ⟨fun v e => N20.u15 (N20.s1 v) e⟩ ⟨fun v e => N20.u15 (N20.s2 v) e⟩ ⟨fun v e => N20.u15 (N20.s3 v) e⟩ ⟨fun v e => N20.u15 (N20.s4 v) e⟩ ⟨fun v e => N20.u15 (N20.s5 v) e⟩ ⟨fun v e => N20.u15 (N20.s6 v) e⟩ ⟨fun v e => N20.u15 (N20.s7 v) e⟩ ⟨fun v e => N20.u15 (N20.s8 v) e⟩ ⟨fun v e => N20.u15 (N20.s9 v) e⟩ ⟨fun v e => N20.u15 (N20.s10 v) e⟩ ⟨fun v e => N20.u15 (N20.s11 v) e⟩ ⟨fun v e => N20.u15 (N20.s12 v) e⟩ ⟨fun v e => N20.u15 (N20.s13 v) e⟩ ⟨fun v e => N20.u15 (N20.s14 v) e⟩ ⟨fun v e => N20.u15 (N20.s15 v) e⟩ ⟨fun v e => N20.u15 (N20.s16 v) e⟩ ⟨fun v e => N20.u15 (N20.s17 v) e⟩ ⟨fun v e => N20.u15 (N20.s18 v) e⟩ ⟨fun v e => N20.u15 (N20.s19 v) e⟩
def accT16 : N20 (Acc E) := N20.mk ⟨fun e => e.x16.x0⟩ ⟨fun e => e.x16.x1⟩ ⟨fun e => e.x16.x2⟩ ⟨fun e => e.x16.x3⟩ ⟨fun e => e.x16.x4⟩ ⟨fun e => e.x16.x5⟩ ⟨fun e => e.x16.x6⟩ ⟨fun e => e.x16.x7⟩ ⟨fun e => e.x16.x8⟩ ⟨fun e => e.x16.x9⟩ ⟨fun e => e.x16.x10⟩ ⟨fun e => e.x16.x11⟩ ⟨fun e => e.x16.x12⟩ ⟨fun e => e.x16.x13⟩ ⟨fun e => e.x16.x14⟩ ⟨fun e => e.x16.x15⟩ ⟨fun e => e.x16.x16⟩ ⟨fun e => e.x16.x17⟩ ⟨fun e => e.x16.x18⟩ ⟨fun e => e.x16.x19⟩
def sttT16 : N20 Stt := N20.mk ⟨fun v e => N20.u16 (N20.s0 v) e⟩ ⟨fun v e => N20.u16 (N20.s1 v) e⟩ ⟨fun v e => N20.u16 (N20.s2 v) e⟩ ⟨fun v e => N20.u16 (N20.s3 v) e⟩ ⟨fun v e => N20.u16 (N20.s4 v) e⟩ ⟨fun v e => N20.u16 (N20.s5 v) e⟩ ⟨fun v e => N20.u16 (N20.s6 v) e⟩ ⟨fun v e => N20.u16 (N20.s7 v) e⟩ ⟨fun v e => N20.u16 (N20.s8 v) e⟩ ⟨fun v e => N20.u16 (N20.s9 v) e⟩ ⟨fun v e => N20.u16 (N20.s10 v) e⟩ ⟨fun v e => N20.u16 (N20.s11 v) e⟩ ⟨fun v e => N20.u16 (N20.s12 v) e⟩ ⟨fun v e => N20.u16 (N20.s13 v) e⟩ ⟨fun v e => N20.u16 (N20.s14 v) e⟩ ⟨fun v e => N20.u16 (N20.s15 v) e⟩ ⟨fun v e => N20.u16 (N20.s16 v) e⟩ ⟨fun v e => N20.u16 (N20.s17 v) e⟩ ⟨fun v e => N20.u16 (N20.s18 v) e⟩ ⟨fun v e => N20.u16 (N20.s19 v) e⟩
def accT17 : N20 (Acc E) := N20.mk ⟨fun e => e.x17.x0⟩ ⟨fun e => e.x17.x1⟩ ⟨fun e => e.x17.x2⟩ ⟨fun e => e.x17.x3⟩ ⟨fun e => e.x17.x4⟩ ⟨fun e => e.x17.x5⟩ ⟨fun e => e.x17.x6⟩ ⟨fun e => e.x17.x7⟩ ⟨fun e => e.x17.x8⟩ ⟨fun e => e.x17.x9⟩ ⟨fun e => e.x17.x10⟩ ⟨fun e => e.x17.x11⟩ ⟨fun e => e.x17.x12⟩ ⟨fun e => e.x17.x13⟩ ⟨fun e => e.x17.x14⟩ ⟨fun e => e.x17.x15⟩ ⟨fun e => e.x17.x16⟩ ⟨fun e => e.x17.x17⟩ ⟨fun e => e.x17.x18⟩ ⟨fun e => e.x17.x19⟩
def sttT17 : N20 Stt := N20.mk ⟨fun v e => N20.u17 (N20.s0 v) e⟩ ⟨fun v e => N20.u17 (N20.s1 v) e⟩ ⟨fun v e => N20.u17 (N20.s2 v) e⟩ ⟨fun v e => N20.u17 (N20.s3 v) e⟩ ⟨fun v e => N20.u17 (N20.s4 v) e⟩ ⟨fun v e => N20.u17 (N20.s5 v) e⟩ ⟨fun v e => N20.u17 (N20.s6 v) e⟩ ⟨fun v e => N20.u17 (N20.s7 v) e⟩ ⟨fun v e => N20.u17 (N20.s8 v) e⟩ ⟨fun v e => N20.u17 (N20.s9 v) e⟩ ⟨fun v e => N20.u17 (N20.s10 v) e⟩ ⟨fun v e => N20.u17 (N20.s11 v) e⟩ ⟨fun v e => N20.u17 (N20.s12 v) e⟩ ⟨fun v e => N20.u17 (N20.s13 v) e⟩ ⟨fun v e => N20.u17 (N20.s14 v) e⟩ ⟨fun v e => N20.u17 (N20.s15 v) e⟩ ⟨fun v e => N20.u17 (N20.s16 v) e⟩ ⟨fun v e => N20.u17 (N20.s17 v) e⟩ ⟨fun v e => N20.u17 (N20.s18 v) e⟩ ⟨fun v e => N20.u17 (N20.s19 v) e⟩
def accT18 : N20 (Acc E) := N20.mk ⟨fun e => e.x18.x0⟩ ⟨fun e => e.x18.x1⟩ ⟨fun e => e.x18.x2⟩ ⟨fun e => e.x18.x3⟩ ⟨fun e => e.x18.x4⟩ ⟨fun e => e.x18.x5⟩ ⟨fun e => e.x18.x6⟩ ⟨fun e => e.x18.x7⟩ ⟨fun e => e.x18.x8⟩ ⟨fun e => e.x18.x9⟩ ⟨fun e => e.x18.x10⟩ ⟨fun e => e.x18.x11⟩ ⟨fun e => e.x18.x12⟩ ⟨fun e => e.x18.x13⟩ ⟨fun e => e.x18.x14⟩ ⟨fun e => e.x18.x15⟩ ⟨fun e => e.x18.x16⟩ ⟨fun e => e.x18.x17⟩ ⟨fun e => e.x18.x18⟩ ⟨fun e => e.x18.x19⟩
def sttT18 : N20 Stt := N20.mk ⟨fun v e => N20.u18 (N20.s0 v) e⟩ ⟨fun v e => N20.u18 (N20.s1 v) e⟩ ⟨fun v e => N20.u18 (N20.s2 v) e⟩ ⟨fun v e => N20.u18 (N20.s3 v) e⟩ ⟨fun v e => N20.u18 (N20.s4 v) e⟩ ⟨fun v e => N20.u18 (N20.s5 v) e⟩ ⟨fun v e => N20.u18 (N20.s6 v) e⟩ ⟨fun v e => N20.u18 (N20.s7 v) e⟩ ⟨fun v e => N20.u18 (N20.s8 v) e⟩ ⟨fun v e => N20.u18 (N20.s9 v) e⟩ ⟨fun v e => N20.u18 (N20.s10 v) e⟩ ⟨fun v e => N20.u18 (N20.s11 v) e⟩ ⟨fun v e => N20.u18 (N20.s12 v) e⟩ ⟨fun v e => N20.u18 (N20.s13 v) e⟩ ⟨fun v e => N20.u18 (N20.s14 v) e⟩ ⟨fun v e => N20.u18 (N20.s15 v) e⟩ ⟨fun v e => N20.u18 (N20.s16 v) e⟩ ⟨fun v e => N20.u18 (N20.s17 v) e⟩ ⟨fun v e => N20.u18 (N20.s18 v) e⟩ ⟨fun v e => N20.u18 (N20.s19 v) e⟩
def accT19 : N20 (Acc E) := N20.mk ⟨fun e => e.x19.x0⟩ ⟨fun e => e.x19.x1⟩ ⟨fun e => e.x19.x2⟩ ⟨fun e => e.x19.x3⟩ ⟨fun e => e.x19.x4⟩ ⟨fun e => e.x19.x5⟩ ⟨fun e => e.x19.x6⟩ ⟨fun e => e.x19.x7⟩ ⟨fun e => e.x19.x8⟩ ⟨fun e => e.x19.x9⟩ ⟨fun e => e.x19.x10⟩ ⟨fun e => e.x19.x11⟩ ⟨fun e => e.x19.x12⟩ ⟨fun e => e.x19.x13⟩ ⟨fun e => e.x19.x14⟩ ⟨fun e => e.x19.x15⟩ ⟨fun e => e.x19.x16⟩ ⟨fun e => e.x19.x17⟩ ⟨fun e => e.x19.x18⟩ ⟨fun e => e.x19.x19⟩
def sttT19 : N20 Stt := N20.mk ⟨fun v e => N20.u19 (N20.s0 v) e⟩ ⟨fun v e => N20.u19 (N20.s1 v) e⟩ ⟨fun v e => N20.u19 (N20.s2 v) e⟩ ⟨fun v e => N20.u19 (N20.s3 v) e⟩ ⟨fun v e => N20.u19 (N20.s4 v) e⟩ ⟨fun v e => N20.u19 (N20.s5 v) e⟩ ⟨fun v e => N20.u19 (N20.s6 v) e⟩ ⟨fun v e => N20.u19 (N20.s7 v) e⟩ ⟨fun v e => N20.u19 (N20.s8 v) e⟩ ⟨fun v e => N20.u19 (N20.s9 v) e⟩ ⟨fun v e => N20.u19 (N20.s10 v) e⟩ ⟨fun v e => N20.u19 (N20.s11 v) e⟩ ⟨fun v e => N20.u19 (N20.s12 v) e⟩ ⟨fun v e => N20.u19 (N20.s13 v) e⟩ ⟨fun v e => N20.u19 (N20.s14 v) e⟩ ⟨fun v e => N20.u19 (N20.s15 v) e⟩ ⟨fun v e => N20.u19 (N20.s16 v) e⟩ ⟨fun v e => N20.u19 (N20.s17 v) e⟩ ⟨fun v e => N20.u19 (N20.s18 v) e⟩ ⟨fun v e => N20.u19 (N20.s19 v) e⟩
def accT : N20 (N20 (Acc E)) := N20.mk accT0 accT1 accT2 accT3 accT4 accT5 accT6 accT7 accT8 accT9 accT10 accT11 accT12 accT13 accT14 accT15 accT16 accT17 accT18 accT19
def sttT : N20 (N20 Stt) := N20.mk sttT0 sttT1 sttT2 sttT3 sttT4 sttT5 sttT6 sttT7 sttT8 sttT9 sttT10 sttT11 sttT12 sttT13 sttT14 sttT15 sttT16 sttT17 sttT18 sttT19

theorem accT_eq : accT = N20.tab fun i => N20.tab fun j => ⟨fun e => N20.gd j (N20.gd i e)⟩ := by kernel_rfl
theorem sttT_eq : sttT = N20.tab fun i => N20.tab fun j => ⟨fun v e => N20.ud i (N20.ud j (fun _ => v)) e⟩ := by kernel_rfl

def accE (t : Nat) : Acc E := N20.gd (Nat.mod t 20) (N20.gd (Nat.div t 20) accT)
def sttE (t : Nat) : Stt := N20.gd (Nat.mod t 20) (N20.gd (Nat.div t 20) sttT)

theorem accE_run (t : Nat) (ht : t < 400) (e : E) : (accE t).run e = getE t e := by
  unfold accE
  rw [accT_eq, N20.gd_tab _ _ (by show t / 20 < 20; omega), N20.gd_tab _ _ (by show t % 20 < 20; omega)]
  rfl
theorem sttE_run (t : Nat) (ht : t < 400) (v : AV) (e : E) : (sttE t).run v e = updE t v e := by
  unfold sttE
  rw [sttT_eq, N20.gd_tab _ _ (by show t / 20 < 20; omega), N20.gd_tab _ _ (by show t % 20 < 20; omega)]
  rfl

def E0 : E := N20.tab fun _ => N20.tab fun _ => AV.undef
theorem getE_E0 (t : Nat) (ht : t < 400) : getE t E0 = .undef := by
  show N20.gd (t % 20) (N20.gd (t / 20) E0) = _
  unfold E0
  rw [N20.gd_tab _ _ (by omega), N20.gd_tab _ _ (by omega)]
end
end Go.Ab
