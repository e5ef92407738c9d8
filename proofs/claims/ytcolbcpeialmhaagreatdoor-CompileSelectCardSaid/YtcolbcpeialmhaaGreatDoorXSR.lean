/- CompileSelect ic all its arguments. -/
import Derived.Test.YtcolbcpeialmhaaGreatDoorXS00b
import Derived.Test.YtcolbcpeialmhaaGreatDoorXS00p
import Derived.Test.YtcolbcpeialmhaaGreatDoorXS00q
import Derived.Test.YtcolbcpeialmhaaGreatDoorXS00r
import Derived.Test.YtcolbcpeialmhaaGreatDoorXS00t
import Derived.Test.YtcolbcpeialmhaaGreatDoorXS01b
import Derived.Test.YtcolbcpeialmhaaGreatDoorXS01p
import Derived.Test.YtcolbcpeialmhaaGreatDoorXS01q
import Derived.Test.YtcolbcpeialmhaaGreatDoorXS01r
import Derived.Test.YtcolbcpeialmhaaGreatDoorXS01t
import Derived.Test.YtcolbcpeialmhaaGreatDoorXS10b
import Derived.Test.YtcolbcpeialmhaaGreatDoorXS10p
import Derived.Test.YtcolbcpeialmhaaGreatDoorXS10q
import Derived.Test.YtcolbcpeialmhaaGreatDoorXS10r
import Derived.Test.YtcolbcpeialmhaaGreatDoorXS10t
import Derived.Test.YtcolbcpeialmhaaGreatDoorXS11b
import Derived.Test.YtcolbcpeialmhaaGreatDoorXS11p
import Derived.Test.YtcolbcpeialmhaaGreatDoorXS11q
import Derived.Test.YtcolbcpeialmhaaGreatDoorXS11r
import Derived.Test.YtcolbcpeialmhaaGreatDoorXS11t
import Derived.Test.YtcolbcpeialmhaaGreatDoorM2
namespace Go.Proofs.YtcolbcpeialmhaaGreatDoor
open Go.Ab
noncomputable section
set_option maxRecDepth 1000000
theorem Rx : aq (okR (Nat.add 5 (aC bo)) bo) (c7 bo) = true := by kernel_rfl
theorem a1B : aJ 1 oW = [tS00.T0] := by kernel_rfl
theorem QK : Nat.add 5 (aC bo) = 12 := by kernel_rfl
theorem fz : StatB dp 12 := lT rfl QK Rx
theorem Lk : Str mv3 bK al n25 dp 12 bo oW oV Dj := aH (R := uX) fz (fun _ _ _ => rfl) TP
theorem Lj : Str mv3 bK al n25 dp 12 bo oV oU Di := aH (R := uW) fz (fun _ _ _ => rfl) TN
theorem Li : Str mv3 bK al n25 dp 12 bo oU oT Dh := aH (R := uV) fz (fun _ _ _ => rfl) TL
theorem Lh : Str mv3 bK al n25 dp 12 bo oT oS Dg := aH (R := uU) fz (fun _ _ _ => rfl) TK
theorem Lg : Str mv3 bK al n25 dp 12 bo oS oR Df := aH (R := uT) fz (fun _ _ _ => rfl) TJ
theorem Lf : Str mv3 bK al n25 dp 12 bo oR oQ De := aH (R := uS) fz (fun _ _ _ => rfl) TI
theorem Ld : Str mv3 bK al n25 dp 12 bo oQ oP Dd := aH (R := uR) fz (fun _ _ _ => rfl) TH
theorem Lc : Str mv3 bK al n25 dp 12 bo oP oO Dc := aH (R := uQ) fz (fun _ _ _ => rfl) TG
theorem Lb : Str mv3 bK al n25 dp 12 bo oO oN Db := aH (R := uP) fz (fun _ _ _ => rfl) TF
theorem La : Str mv3 bK al n25 dp 12 bo oN km Da := aH (R := uO) fz (fun _ _ _ => rfl) TE
theorem Gx : Str mv3 bK al n25 dp 12 bo km kj uc := aH (R := mF) fz (fun _ _ _ => rfl) Mt
theorem Gw : Str mv3 bK al n25 dp 12 bo kj ki ub := aH (R := mE) fz (fun _ _ _ => rfl) Ms
theorem Gv : Str mv3 bK al n25 dp 12 bo ki [] ua := aH (R := mD) fz (fun _ _ _ => rfl) Mr
theorem RZ : ∃ A, TxtOK al mv3 tS00 A bK :=
 lR (B := dp) (m := 12) (S := oW) rfl QK a8f a6Q a88 (dr (n := 1) (LX a1B)) (Chain.cons Lk (Chain.cons Lj (Chain.cons Li (Chain.cons Lh (Chain.cons Lg (Chain.cons Lf (Chain.cons Ld (Chain.cons Lc (Chain.cons Lb (Chain.cons La (Chain.cons Gx (Chain.cons Gw (Chain.cons Gv Chain.nil)))))))))))))
end
noncomputable section
set_option maxRecDepth 1000000
theorem Rv : aq (okR (Nat.add 5 (aC bd)) bd) (c7 bd) = true := by kernel_rfl
theorem a1A : aJ 1 oM = [tS01.T0] := by kernel_rfl
theorem QJ : Nat.add 5 (aC bd) = 12 := by kernel_rfl
theorem ez : StatB cF 12 := lT rfl QJ Rv
theorem L9 : Str mv3 bw al n25 cF 12 bd oM oL D9 := aH (R := uN) ez (fun _ _ _ => rfl) TD
theorem L8 : Str mv3 bw al n25 cF 12 bd oL oK D8 := aH (R := uM) ez (fun _ _ _ => rfl) TC
theorem L7 : Str mv3 bw al n25 cF 12 bd oK oJ D7 := aH (R := uL) ez (fun _ _ _ => rfl) TB
theorem L6 : Str mv3 bw al n25 cF 12 bd oJ oI D6 := aH (R := uK) ez (fun _ _ _ => rfl) TA
theorem L5 : Str mv3 bw al n25 cF 12 bd oI l3 YI := MJ (n := 15) (R1 := uJ) (R2 := mw) ez (fun _ _ _ => rfl) (fun _ _ _ => rfl) Tz Ml TU
theorem L4 : Str mv3 bw al n25 cF 12 bd l3 oH D5 := aH (R := uI) ez (fun _ _ _ => rfl) Ty
theorem L3 : Str mv3 bw al n25 cF 12 bd oH oG D4 := aH (R := uH) ez (fun _ _ _ => rfl) Tx
theorem L1 : Str mv3 bw al n25 cF 12 bd oG oF D3 := aH (R := uG) ez (fun _ _ _ => rfl) Tw
theorem L0 : Str mv3 bw al n25 cF 12 bd oF oE D2 := aH (R := uF) ez (fun _ _ _ => rfl) Tv
theorem KZ : Str mv3 bw al n25 cF 12 bd oE kh D1 := aH (R := uE) ez (fun _ _ _ => rfl) Tt
theorem Gu : Str mv3 bw al n25 cF 12 bd kh kg tZ := aH (R := mC) ez (fun _ _ _ => rfl) Mq
theorem Gt : Str mv3 bw al n25 cF 12 bd kg k9 tY := aH (R := mB) ez (fun _ _ _ => rfl) Mp
theorem Gs : Str mv3 bw al n25 cF 12 bd k9 k8 tX := aH (R := mA) ez (fun _ _ _ => rfl) Mo
theorem Gr : Str mv3 bw al n25 cF 12 bd k8 k7 tW := aH (R := mz) ez (fun _ _ _ => rfl) Mn
theorem Gq : Str mv3 bw al n25 cF 12 bd k7 [] tV := aH (R := my) ez (fun _ _ _ => rfl) Mm
theorem RY : ∃ A, TxtOK al mv3 tS01 A bw :=
 lR (B := cF) (m := 12) (S := oM) rfl QJ a8e a6P a87 (dr (n := 1) (LX a1A)) (Chain.cons L9 (Chain.cons L8 (Chain.cons L7 (Chain.cons L6 (Chain.cons L5 (Chain.cons L4 (Chain.cons L3 (Chain.cons L1 (Chain.cons L0 (Chain.cons KZ (Chain.cons Gu (Chain.cons Gt (Chain.cons Gs (Chain.cons Gr (Chain.cons Gq Chain.nil)))))))))))))))
end
noncomputable section
set_option maxRecDepth 1000000
theorem Ru : aq (okR (Nat.add 5 (aC bf)) bf) (c7 bf) = true := by kernel_rfl
theorem a1z : aJ 1 oD = [tS10.T0] := by kernel_rfl
theorem QH : Nat.add 5 (aC bf) = 12 := by kernel_rfl
theorem ey : StatB cI 12 := lT rfl QH Ru
theorem KY : Str mv3 bB al n25 cI 12 bf oD oC CZ := aH (R := uD) ey (fun _ _ _ => rfl) Ts
theorem KX : Str mv3 bB al n25 cI 12 bf oC oB CY := aH (R := uC) ey (fun _ _ _ => rfl) Tq
theorem KV : Str mv3 bB al n25 cI 12 bf oB oA CX := aH (R := uB) ey (fun _ _ _ => rfl) To
theorem KU : Str mv3 bB al n25 cI 12 bf oA oz CW := aH (R := uA) ey (fun _ _ _ => rfl) Tn
theorem KT : Str mv3 bB al n25 cI 12 bf oz oy CV := aH (R := uz) ey (fun _ _ _ => rfl) Tm
theorem KS : Str mv3 bB al n25 cI 12 bf oy ox CU := aH (R := uy) ey (fun _ _ _ => rfl) Tl
theorem KQ : Str mv3 bB al n25 cI 12 bf ox ow CT := aH (R := ux) ey (fun _ _ _ => rfl) Tk
theorem KO : Str mv3 bB al n25 cI 12 bf ow ov CS := aH (R := uw) ey (fun _ _ _ => rfl) Tj
theorem KM : Str mv3 bB al n25 cI 12 bf ov ou CR := aH (R := uv) ey (fun _ _ _ => rfl) Ti
theorem KL : Str mv3 bB al n25 cI 12 bf ou k6 CQ := aH (R := uu) ey (fun _ _ _ => rfl) Th
theorem Gp : Str mv3 bB al n25 cI 12 bf k6 k5 tU := aH (R := mu) ey (fun _ _ _ => rfl) Mj
theorem Gn : Str mv3 bB al n25 cI 12 bf k5 k4 tT := aH (R := mr) ey (fun _ _ _ => rfl) Mi
theorem Gm : Str mv3 bB al n25 cI 12 bf k4 jZ tS := aH (R := mq) ey (fun _ _ _ => rfl) Mh
theorem Gk : Str mv3 bB al n25 cI 12 bf jZ jY tR := aH (R := mo) ey (fun _ _ _ => rfl) Mg
theorem Gj : Str mv3 bB al n25 cI 12 bf jY [] tQ := aH (R := mn) ey (fun _ _ _ => rfl) Mf
theorem RX : ∃ A, TxtOK al mv3 tS10 A bB :=
 lR (B := cI) (m := 12) (S := oD) rfl QH a8d a6O a86 (dr (n := 1) (LX a1z)) (Chain.cons KY (Chain.cons KX (Chain.cons KV (Chain.cons KU (Chain.cons KT (Chain.cons KS (Chain.cons KQ (Chain.cons KO (Chain.cons KM (Chain.cons KL (Chain.cons Gp (Chain.cons Gn (Chain.cons Gm (Chain.cons Gk (Chain.cons Gj Chain.nil)))))))))))))))
end
noncomputable section
set_option maxRecDepth 1000000
theorem Rt : aq (okR (Nat.add 5 (aC bb)) bb) (c7 bb) = true := by kernel_rfl
theorem a1y : aJ 1 ot = [tS11.T0] := by kernel_rfl
theorem QG : Nat.add 5 (aC bb) = 12 := by kernel_rfl
theorem dQ : StatB cC 12 := lT rfl QG Rt
theorem KK : Str mv3 bp al n25 cC 12 bb ot oq CP := aH (R := ur) dQ (fun _ _ _ => rfl) Tg
theorem KJ : Str mv3 bp al n25 cC 12 bb oq oo CO := aH (R := uq) dQ (fun _ _ _ => rfl) Tf
theorem KI : Str mv3 bp al n25 cC 12 bb oo oj CN := aH (R := uo) dQ (fun _ _ _ => rfl) Te
theorem KH : Str mv3 bp al n25 cC 12 bb oj oi CM := aH (R := um) dQ (fun _ _ _ => rfl) Td
theorem KG : Str mv3 bp al n25 cC 12 bb oi oh CL := aH (R := uk) dQ (fun _ _ _ => rfl) Tc
theorem KF : Str mv3 bp al n25 cC 12 bb oh og CK := aH (R := uj) dQ (fun _ _ _ => rfl) Ta
theorem KE : Str mv3 bp al n25 cC 12 bb og oe CJ := aH (R := ui) dQ (fun _ _ _ => rfl) T9
theorem KD : Str mv3 bp al n25 cC 12 bb oe od CI := aH (R := uh) dQ (fun _ _ _ => rfl) T8
theorem KB : Str mv3 bp al n25 cC 12 bb od oa CG := aH (R := ug) dQ (fun _ _ _ => rfl) T7
theorem KA : Str mv3 bp al n25 cC 12 bb oa jX CF := aH (R := uf) dQ (fun _ _ _ => rfl) T6
theorem Gi : Str mv3 bp al n25 cC 12 bb jX jW tP := aH (R := ml) dQ (fun _ _ _ => rfl) Me
theorem Gh : Str mv3 bp al n25 cC 12 bb jW jV tO := aH (R := mj) dQ (fun _ _ _ => rfl) Md
theorem Gg : Str mv3 bp al n25 cC 12 bb jV jU tN := aH (R := mi) dQ (fun _ _ _ => rfl) Mc
theorem Gf : Str mv3 bp al n25 cC 12 bb jU jT tM := aH (R := mh) dQ (fun _ _ _ => rfl) Mb
theorem Ge : Str mv3 bp al n25 cC 12 bb jT jS tL := aH (R := mg) dQ (fun _ _ _ => rfl) Ma
theorem Gd : Str mv3 bp al n25 cC 12 bb jS [] tK := aH (R := me) dQ (fun _ _ _ => rfl) M9
theorem RW : ∃ A, TxtOK al mv3 tS11 A bp :=
 lR (B := cC) (m := 12) (S := ot) rfl QG a8c a6N a85 (dr (n := 1) (LX a1y)) (Chain.cons KK (Chain.cons KJ (Chain.cons KI (Chain.cons KH (Chain.cons KG (Chain.cons KF (Chain.cons KE (Chain.cons KD (Chain.cons KB (Chain.cons KA (Chain.cons Gi (Chain.cons Gh (Chain.cons Gg (Chain.cons Gf (Chain.cons Ge (Chain.cons Gd Chain.nil))))))))))))))))
end
noncomputable section
set_option maxRecDepth 1000000
theorem Zi (x : Int) (A : Tp → Prop) (P : List AV → AHeap → R) : iD (lN (cb tS00 A) 999 n11 P) (.bool false) (.bool false) (.int .u32 x) H0 =
 ob2 (P [.str tS00.T, I 8, .int .u32 x, I ((900 : Nat) : Int)] H0) fun v H => wT (lN (cb tS00 A) 999 n11 P) (.bool false) (.bool false) v H := by kernel_rfl
theorem Kr (x : Int) : FI n5 [.bool false, .bool false, .int .u32 x] :=
 lY (t := tS00) (N := 900) (x := x) RZ (by decide) (by decide) (Zi x)
theorem Zh (x : Int) (A : Tp → Prop) (P : List AV → AHeap → R) : iD (lN (cb tS01 A) 999 n11 P) (.bool false) (.bool true) (.int .u32 x) H0 =
 ob2 (P [.str tS01.T, I 8, .int .u32 x, I ((900 : Nat) : Int)] H0) fun v H => wT (lN (cb tS01 A) 999 n11 P) (.bool false) (.bool true) v H := by kernel_rfl
theorem Kq (x : Int) : FI n5 [.bool false, .bool true, .int .u32 x] :=
 lY (t := tS01) (N := 900) (x := x) RY (by decide) (by decide) (Zh x)
theorem Zg (x : Int) (A : Tp → Prop) (P : List AV → AHeap → R) : iD (lN (cb tS10 A) 999 n11 P) (.bool true) (.bool false) (.int .u32 x) H0 =
 ob2 (P [.str tS10.T, I 8, .int .u32 x, I ((900 : Nat) : Int)] H0) fun v H => wT (lN (cb tS10 A) 999 n11 P) (.bool true) (.bool false) v H := by kernel_rfl
theorem Kp (x : Int) : FI n5 [.bool true, .bool false, .int .u32 x] :=
 lY (t := tS10) (N := 900) (x := x) RX (by decide) (by decide) (Zg x)
theorem Zf (x : Int) (A : Tp → Prop) (P : List AV → AHeap → R) : iD (lN (cb tS11 A) 999 n11 P) (.bool true) (.bool true) (.int .u32 x) H0 =
 ob2 (P [.str tS11.T, I 8, .int .u32 x, I ((900 : Nat) : Int)] H0) fun v H => wT (lN (cb tS11 A) 999 n11 P) (.bool true) (.bool true) v H := by kernel_rfl
theorem Ko (x : Int) : FI n5 [.bool true, .bool true, .int .u32 x] :=
 lY (t := tS11) (N := 900) (x := x) RW (by decide) (by decide) (Zf x)
theorem yb (x0 x1 : Bool) (x2 : Int) : FI n5 [.bool x0, .bool x1, .int .u32 x2] := by
 cases x0 <;> cases x1
 · exact Kr x2
 · exact Kq x2
 · exact Kp x2
 · exact Ko x2
end
end Go.Proofs.YtcolbcpeialmhaaGreatDoor
