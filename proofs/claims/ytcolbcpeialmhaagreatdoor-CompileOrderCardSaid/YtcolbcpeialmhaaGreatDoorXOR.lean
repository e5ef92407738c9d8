/- CompileOrder over all its arguments. -/
import Derived.Test.YtcolbcpeialmhaaGreatDoorXO00b
import Derived.Test.YtcolbcpeialmhaaGreatDoorXO00p
import Derived.Test.YtcolbcpeialmhaaGreatDoorXO00q
import Derived.Test.YtcolbcpeialmhaaGreatDoorXO00r
import Derived.Test.YtcolbcpeialmhaaGreatDoorXO01b
import Derived.Test.YtcolbcpeialmhaaGreatDoorXO01p
import Derived.Test.YtcolbcpeialmhaaGreatDoorXO01q
import Derived.Test.YtcolbcpeialmhaaGreatDoorXO01r
import Derived.Test.YtcolbcpeialmhaaGreatDoorXO10b
import Derived.Test.YtcolbcpeialmhaaGreatDoorXO10p
import Derived.Test.YtcolbcpeialmhaaGreatDoorXO10q
import Derived.Test.YtcolbcpeialmhaaGreatDoorXO10r
import Derived.Test.YtcolbcpeialmhaaGreatDoorXO11b
import Derived.Test.YtcolbcpeialmhaaGreatDoorXO11p
import Derived.Test.YtcolbcpeialmhaaGreatDoorXO11q
import Derived.Test.YtcolbcpeialmhaaGreatDoorXO11r
import Derived.Test.YtcolbcpeialmhaaGreatDoorM2
namespace Go.Proofs.YtcolbcpeialmhaaGreatDoor
open Go.Ab
noncomputable section
set_option maxRecDepth 1000000
theorem st_O00 : and2 (okR (Nat.add 5 (lenL stO00)) stO00) (shutR stO00) = true := by kernel_rfl
theorem e_O00 : SO00_0 = [tO00.T0] := by kernel_rfl
theorem m_O00 : Nat.add 5 (lenL stO00) = 20 := by kernel_rfl
theorem b_O00 : StatB BO00 20 := stat_of rfl m_O00 st_O00
theorem r_O00_0 : Str mv3 okO00 call3 n25 BO00 20 stO00 SO00_0 SO00_1 LO00_0 := Str_at (R := GO00_0) b_O00 (fun _ _ _ => rfl) gO00_0
theorem r_O00_1 : Str mv3 okO00 call3 n25 BO00 20 stO00 SO00_1 SO00_2 LO00_1 := Str_at (R := GO00_1) b_O00 (fun _ _ _ => rfl) gO00_1
theorem r_O00_2 : Str mv3 okO00 call3 n25 BO00 20 stO00 SO00_2 SO00_3 LO00_2 := Str_at (R := GO00_2) b_O00 (fun _ _ _ => rfl) gO00_2
theorem r_O00_3 : Str mv3 okO00 call3 n25 BO00 20 stO00 SO00_3 SO00_4 LO00_3 := Str_at (R := GO00_3) b_O00 (fun _ _ _ => rfl) gO00_3
theorem r_O00_4 : Str mv3 okO00 call3 n25 BO00 20 stO00 SO00_4 SO00_5 LO00_4 := Str_at (R := GO00_4) b_O00 (fun _ _ _ => rfl) gO00_4
theorem r_O00_5 : Str mv3 okO00 call3 n25 BO00 20 stO00 SO00_5 SO00_6 LO00_5 := Str_at (R := GO00_5) b_O00 (fun _ _ _ => rfl) gO00_5
theorem r_O00_6 : Str mv3 okO00 call3 n25 BO00 20 stO00 SO00_6 SO00_7 LO00_6 := Str_at (R := GO00_6) b_O00 (fun _ _ _ => rfl) gO00_6
theorem r_O00_7 : Str mv3 okO00 call3 n25 BO00 20 stO00 SO00_7 SO00_8 LO00_7 := Str_at (R := GO00_7) b_O00 (fun _ _ _ => rfl) gO00_7
theorem r_O00_8 : Str mv3 okO00 call3 n25 BO00 20 stO00 SO00_8 [] LO00_8 := Str_at (R := GO00_8) b_O00 (fun _ _ _ => rfl) gO00_8
theorem ok_O00 : ∃ A, TxtOK call3 mv3 tO00 A okO00 :=
 text_ok (B := BO00) (m := 20) (S := SO00_0) rfl m_O00 cO00 nO00 hO00 (mem1 e_O00) (Chain.cons r_O00_0 (Chain.cons r_O00_1 (Chain.cons r_O00_2 (Chain.cons r_O00_3 (Chain.cons r_O00_4 (Chain.cons r_O00_5 (Chain.cons r_O00_6 (Chain.cons r_O00_7 (Chain.cons r_O00_8 Chain.nil)))))))))
end
noncomputable section
set_option maxRecDepth 1000000
theorem st_O01 : and2 (okR (Nat.add 5 (lenL stO01)) stO01) (shutR stO01) = true := by kernel_rfl
theorem e_O01 : SO01_0 = [tO01.T0] := by kernel_rfl
theorem m_O01 : Nat.add 5 (lenL stO01) = 20 := by kernel_rfl
theorem b_O01 : StatB BO01 20 := stat_of rfl m_O01 st_O01
theorem r_O01_0 : Str mv3 okO01 call3 n25 BO01 20 stO01 SO01_0 SO01_1 LO01_0 := Str_at (R := GO01_0) b_O01 (fun _ _ _ => rfl) gO01_0
theorem r_O01_1 : Str mv3 okO01 call3 n25 BO01 20 stO01 SO01_1 SO01_2 LO01_1 := Str_at (R := GO01_1) b_O01 (fun _ _ _ => rfl) gO01_1
theorem r_O01_2 : Str mv3 okO01 call3 n25 BO01 20 stO01 SO01_2 SO01_3 LO01_2 := Str_at (R := GO01_2) b_O01 (fun _ _ _ => rfl) gO01_2
theorem r_O01_3 : Str mv3 okO01 call3 n25 BO01 20 stO01 SO01_3 SO01_4 LO01_3 := Str_at (R := GO01_3) b_O01 (fun _ _ _ => rfl) gO01_3
theorem r_O01_4 : Str mv3 okO01 call3 n25 BO01 20 stO01 SO01_4 SO01_5 LO01_4 := Str_at (R := GO01_4) b_O01 (fun _ _ _ => rfl) gO01_4
theorem r_O01_5 : Str mv3 okO01 call3 n25 BO01 20 stO01 SO01_5 SO01_6 LO01_5 := Str_at (R := GO01_5) b_O01 (fun _ _ _ => rfl) gO01_5
theorem r_O01_6 : Str mv3 okO01 call3 n25 BO01 20 stO01 SO01_6 SO01_7 LO01_6 := Str_at (R := GO01_6) b_O01 (fun _ _ _ => rfl) gO01_6
theorem r_O01_7 : Str mv3 okO01 call3 n25 BO01 20 stO01 SO01_7 SO01_8 LO01_7 := Str_at (R := GO01_7) b_O01 (fun _ _ _ => rfl) gO01_7
theorem r_O01_8 : Str mv3 okO01 call3 n25 BO01 20 stO01 SO01_8 [] LO01_8 := Str_at (R := GO01_8) b_O01 (fun _ _ _ => rfl) gO01_8
theorem ok_O01 : ∃ A, TxtOK call3 mv3 tO01 A okO01 :=
 text_ok (B := BO01) (m := 20) (S := SO01_0) rfl m_O01 cO01 nO01 hO01 (mem1 e_O01) (Chain.cons r_O01_0 (Chain.cons r_O01_1 (Chain.cons r_O01_2 (Chain.cons r_O01_3 (Chain.cons r_O01_4 (Chain.cons r_O01_5 (Chain.cons r_O01_6 (Chain.cons r_O01_7 (Chain.cons r_O01_8 Chain.nil)))))))))
end
noncomputable section
set_option maxRecDepth 1000000
theorem st_O10 : and2 (okR (Nat.add 5 (lenL stO10)) stO10) (shutR stO10) = true := by kernel_rfl
theorem e_O10 : SO10_0 = [tO10.T0] := by kernel_rfl
theorem m_O10 : Nat.add 5 (lenL stO10) = 20 := by kernel_rfl
theorem b_O10 : StatB BO10 20 := stat_of rfl m_O10 st_O10
theorem r_O10_0 : Str mv3 okO10 call3 n25 BO10 20 stO10 SO10_0 SO10_1 LO10_0 := Str_at (R := GO10_0) b_O10 (fun _ _ _ => rfl) gO10_0
theorem r_O10_1 : Str mv3 okO10 call3 n25 BO10 20 stO10 SO10_1 SO10_2 LO10_1 := Str_at (R := GO10_1) b_O10 (fun _ _ _ => rfl) gO10_1
theorem r_O10_2 : Str mv3 okO10 call3 n25 BO10 20 stO10 SO10_2 SO10_3 LO10_2 := Str_at (R := GO10_2) b_O10 (fun _ _ _ => rfl) gO10_2
theorem r_O10_3 : Str mv3 okO10 call3 n25 BO10 20 stO10 SO10_3 SO10_4 LO10_3 := Str_at (R := GO10_3) b_O10 (fun _ _ _ => rfl) gO10_3
theorem r_O10_4 : Str mv3 okO10 call3 n25 BO10 20 stO10 SO10_4 SO10_5 LO10_4 := Str_at (R := GO10_4) b_O10 (fun _ _ _ => rfl) gO10_4
theorem r_O10_5 : Str mv3 okO10 call3 n25 BO10 20 stO10 SO10_5 SO10_6 LO10_5 := Str_at (R := GO10_5) b_O10 (fun _ _ _ => rfl) gO10_5
theorem r_O10_6 : Str mv3 okO10 call3 n25 BO10 20 stO10 SO10_6 SO10_7 LO10_6 := Str_at (R := GO10_6) b_O10 (fun _ _ _ => rfl) gO10_6
theorem r_O10_7 : Str mv3 okO10 call3 n25 BO10 20 stO10 SO10_7 SO10_8 LO10_7 := Str_at (R := GO10_7) b_O10 (fun _ _ _ => rfl) gO10_7
theorem r_O10_8 : Str mv3 okO10 call3 n25 BO10 20 stO10 SO10_8 [] LO10_8 := Str_at (R := GO10_8) b_O10 (fun _ _ _ => rfl) gO10_8
theorem ok_O10 : ∃ A, TxtOK call3 mv3 tO10 A okO10 :=
 text_ok (B := BO10) (m := 20) (S := SO10_0) rfl m_O10 cO10 nO10 hO10 (mem1 e_O10) (Chain.cons r_O10_0 (Chain.cons r_O10_1 (Chain.cons r_O10_2 (Chain.cons r_O10_3 (Chain.cons r_O10_4 (Chain.cons r_O10_5 (Chain.cons r_O10_6 (Chain.cons r_O10_7 (Chain.cons r_O10_8 Chain.nil)))))))))
end
noncomputable section
set_option maxRecDepth 1000000
theorem st_O11 : and2 (okR (Nat.add 5 (lenL stO11)) stO11) (shutR stO11) = true := by kernel_rfl
theorem e_O11 : SO11_0 = [tO11.T0] := by kernel_rfl
theorem m_O11 : Nat.add 5 (lenL stO11) = 20 := by kernel_rfl
theorem b_O11 : StatB BO11 20 := stat_of rfl m_O11 st_O11
theorem r_O11_0 : Str mv3 okO11 call3 n25 BO11 20 stO11 SO11_0 SO11_1 LO11_0 := Str_at (R := GO11_0) b_O11 (fun _ _ _ => rfl) gO11_0
theorem r_O11_1 : Str mv3 okO11 call3 n25 BO11 20 stO11 SO11_1 SO11_2 LO11_1 := Str_at (R := GO11_1) b_O11 (fun _ _ _ => rfl) gO11_1
theorem r_O11_2 : Str mv3 okO11 call3 n25 BO11 20 stO11 SO11_2 SO11_3 LO11_2 := Str_at (R := GO11_2) b_O11 (fun _ _ _ => rfl) gO11_2
theorem r_O11_3 : Str mv3 okO11 call3 n25 BO11 20 stO11 SO11_3 SO11_4 LO11_3 := Str_at (R := GO11_3) b_O11 (fun _ _ _ => rfl) gO11_3
theorem r_O11_4 : Str mv3 okO11 call3 n25 BO11 20 stO11 SO11_4 SO11_5 LO11_4 := Str_at (R := GO11_4) b_O11 (fun _ _ _ => rfl) gO11_4
theorem r_O11_5 : Str mv3 okO11 call3 n25 BO11 20 stO11 SO11_5 SO11_6 LO11_5 := Str_at (R := GO11_5) b_O11 (fun _ _ _ => rfl) gO11_5
theorem r_O11_6 : Str mv3 okO11 call3 n25 BO11 20 stO11 SO11_6 SO11_7 LO11_6 := Str_at (R := GO11_6) b_O11 (fun _ _ _ => rfl) gO11_6
theorem r_O11_7 : Str mv3 okO11 call3 n25 BO11 20 stO11 SO11_7 SO11_8 LO11_7 := Str_at (R := GO11_7) b_O11 (fun _ _ _ => rfl) gO11_7
theorem r_O11_8 : Str mv3 okO11 call3 n25 BO11 20 stO11 SO11_8 [] LO11_8 := Str_at (R := GO11_8) b_O11 (fun _ _ _ => rfl) gO11_8
theorem ok_O11 : ∃ A, TxtOK call3 mv3 tO11 A okO11 :=
 text_ok (B := BO11) (m := 20) (S := SO11_0) rfl m_O11 cO11 nO11 hO11 (mem1 e_O11) (Chain.cons r_O11_0 (Chain.cons r_O11_1 (Chain.cons r_O11_2 (Chain.cons r_O11_3 (Chain.cons r_O11_4 (Chain.cons r_O11_5 (Chain.cons r_O11_6 (Chain.cons r_O11_7 (Chain.cons r_O11_8 Chain.nil)))))))))
end
noncomputable section
set_option maxRecDepth 1000000
theorem q_O00 (x : Int) (A : Tp → Prop) (P : List AV → AHeap → R) : Look (primsT tO00 A) tO00.T 2500 wO00 x (fun call => S3_0 call (.bool false) (.bool false) (.int .u32 x) H0) P := by unfold Look; kernel_rfl
theorem run_O00 (x : Int) : Says n3 [.bool false, .bool false, .int .u32 x] :=
 law_says (t := tO00) (want := wO00) (N := 2500) (x := x) ok_O00 (by decide) (by decide) (by decide) (fun A => U3 (primsT tO00 A) rfl 999 _ _ _ H0) (q_O00 x)
theorem q_O01 (x : Int) (A : Tp → Prop) (P : List AV → AHeap → R) : Look (primsT tO01 A) tO01.T 2500 wO01 x (fun call => S3_0 call (.bool false) (.bool true) (.int .u32 x) H0) P := by unfold Look; kernel_rfl
theorem run_O01 (x : Int) : Says n3 [.bool false, .bool true, .int .u32 x] :=
 law_says (t := tO01) (want := wO01) (N := 2500) (x := x) ok_O01 (by decide) (by decide) (by decide) (fun A => U3 (primsT tO01 A) rfl 999 _ _ _ H0) (q_O01 x)
theorem q_O10 (x : Int) (A : Tp → Prop) (P : List AV → AHeap → R) : Look (primsT tO10 A) tO10.T 2500 wO10 x (fun call => S3_0 call (.bool true) (.bool false) (.int .u32 x) H0) P := by unfold Look; kernel_rfl
theorem run_O10 (x : Int) : Says n3 [.bool true, .bool false, .int .u32 x] :=
 law_says (t := tO10) (want := wO10) (N := 2500) (x := x) ok_O10 (by decide) (by decide) (by decide) (fun A => U3 (primsT tO10 A) rfl 999 _ _ _ H0) (q_O10 x)
theorem q_O11 (x : Int) (A : Tp → Prop) (P : List AV → AHeap → R) : Look (primsT tO11 A) tO11.T 2500 wO11 x (fun call => S3_0 call (.bool true) (.bool true) (.int .u32 x) H0) P := by unfold Look; kernel_rfl
theorem run_O11 (x : Int) : Says n3 [.bool true, .bool true, .int .u32 x] :=
 law_says (t := tO11) (want := wO11) (N := 2500) (x := x) ok_O11 (by decide) (by decide) (by decide) (fun A => U3 (primsT tO11 A) rfl 999 _ _ _ H0) (q_O11 x)
theorem Order_run (x0 x1 : Bool) (x2 : Int) : Says n3 [.bool x0, .bool x1, .int .u32 x2] := by
 cases x0 <;> cases x1
 · exact run_O00 x2
 · exact run_O01 x2
 · exact run_O10 x2
 · exact run_O11 x2
end
end Go.Proofs.YtcolbcpeialmhaaGreatDoor
