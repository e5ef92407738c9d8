/- The table, checked. -/
import Derived.Test.YtcolbcpeialmhaaGreatDoorVE
import Derived.Test.YtcolbcpeialmhaaGreatDoorVG0
import Derived.Test.YtcolbcpeialmhaaGreatDoorVG1
import Derived.Test.YtcolbcpeialmhaaGreatDoorVG2
import Derived.Test.YtcolbcpeialmhaaGreatDoorVG3
import Derived.KernelRfl
namespace Go.Proofs.YtcolbcpeialmhaaGreatDoor
open Go.Ab
set_option maxRecDepth 100000
theorem a2a : lu Tryz.prog [3] nX 0 106 = true := by kernel_rfl
theorem a21 : lu Tryz.prog [3] nX 106 107 = true := by kernel_rfl
theorem a20 : lu Tryz.prog [3] nX 213 128 = true := by kernel_rfl
theorem a1Z : lu Tryz.prog [3] nX 341 176 = true := by kernel_rfl
theorem a1Y : AllSta Tryz.prog [3] 1000000 0 rQ := by
 unfold rQ
 exact (asN (asN (asN (asS a3n (asS a2D (asS a2t (asS a2p (asS a2j (asS a2f (asS a2b (asS Yo (asS Yh (asN (asS Y4 (asS XY (asN (asS XK (asS Xz (asN (asN (asN (asN (asS Xg (asN (asS X3 (asS WT (asN (asN (asN (asS Ws (asN (asS Wk (asN (asS Wf (asN (asN (asN (asN (asN (asN (asN (asN (asN (asN (asS V8 (asS V6 (asS V0 (asS UU (asS UR (asS UP (asN (asN (asN (asN (asS UI (asS UH (asS UG (asS UF (asS UE (asS UD (asN (asN (asS UC (asN (asN (asN (asN (asS UB (asS UA (asS Uz (asS Ur (asN (asS Uq (asS Up (asS Uo (asS Un (asN (asN (asN (asN (asS Uk (asS Uj (asN (asN (asN (asN (asS Ui (asN (asN (asN (asN (asS Uh (asN (asN (asN (asS Uf (asN (asS Ue (asS Ud (asN (asN (asS Qy (asN (asN (asN (asN (asN (asS Qx (asS Qw (asS Qv (asS Qu (asS Qt (asS Qr (asS Qq (asS Qp (asS Qo (asS Qn (asN (asN (asN (asS Qm (asS Ql (asS Qk (asS Qj (asN (asS Qi (asS Qh (asN (asS Qg (asN (asS Qf (asS Qe (asN (asS Qd (asS Qc (asN (asN (asS Qb (asN (asS Qa (asN (asN (asN (asN (asN (asN (asS Q9 (asS Q8 (asN (asN (asS Q7 (asN (asS Q6 (asS Q5 (asN (asN (asN (asN (asN (asS Q4 (asN (asS PZ (asS PY (asS PX (asS PW (asS PV (asS PU (asS PT (asS PS (asS PR (asS PQ (asS PO (asS PN (asS PM (asS PL (asS PK (asS PJ (asS PI (asS PH (asS PG (asS PF (asN (asS PD (asN (asS PC (asS PB (asN (asN (asS PA (asN (asN (asN (asN (asN (asN (asS Pz (asN (asN (asS Py (asS Px (asN (asN (asS Pw (asN (asN (asS Pv (asN (asN (asN (asN (asS Pu (asS Pt (asS Ps (asN (asN (asN (asN (asN (asS Pr (asS Pq (asS Pp (asS Po (asN (asS Pn (asN (asN (asN (asN (asS Pm (asN (asS Pl (asN (asS Pj (asS Ph (asS Pg (asS Pf (asS Pe (asS Pd (asN (asS Pc (asS Pb (asS Pa (asN (asN (asS P9 (asN (asS P8 (asS P6 (asS P4 (asS P3 (asS P2 (asS P1 (asS P0 (asS OZ (asS OX (asS OW (asS OV (asS OU (asS OT (asS OS (asS OQ (asS OP (asS OO (asS ON (asS OM (asS OL (asS OK (asN (asN (asS OJ (asN (asN (asS OI (asN (asS OH (asN (asS OG (asN (asS OF (asS OE (asS OD (asN (asS OC (asS OB (asS OA (asN (asS Oz (asS Oy (asS Ox (asN (asN (asN (asS Ow (asS Ov (asS Ou (asS Ot (asN (asN (asN (asS Oq (asS Oo (asN (asN (asS On (asN (asN (asS Om (asN (asN (asN (asN (asN (asN (asS Ol (asS Oj (asN (asN (asS Oi (asS Oh (asN (asS Og (asN (asN (asN (asN (asN (asN (asN (asN (asN (asS Of (asN (asN (asS Oe (asN (asN (asN (asN (asN (asS Od (asS Oc (asS Ob (asS Oa (asN (asS O9 (asS O8 (asS O7 (asS O6 (asN (asN (asN (asS O5 (asN (asS O4 (asS O2 (asS O1 (asS O0 (asS NZ (asN (asS NY (asS NX (asS NW (asS NV (asS NU (asS NT (asS NS (asS NR (asS NQ (asS NO (asS NN (asS NM (asS NL (asS NK (asN (asN (asN (asN (asS NJ (asS NI (asS NH (asS NG (asS NF (asS ND (asN (asN (asS NC (asN (asS NB (asS NA (asS Nz (asN (asS Ny (asN (asS Nx (asS Nw (asS Nv (asS Nt (asS Ns (asS Nr (asS Nq (asN (asS Np (asS Nn (asN (asN (asN (asS Nm (asN (asN (asS Nl (asS Nk (asN (asN (asN (asN (asN (asS Nj (asS Ni (asN (asN (asN (asN (asN (asS Nh (asS Ng (asS Nf (asS Nc (asN (asN (asN (asN (asN (asN (asN (asN (asN (asS Nb (asN (asS Na (asS N9 (asS N8 (asS N7 (asN (asN (asS N6 (asS N5 (asS N4 (asN (asN (asS N3 (asS N2 (asN (asN (asN (asN (asN (asN (asN (asN (asN (asN (asN (asN (asS N1 (asS N0 (asS MZ (asS MY (asS MX (asN (asS MW (asN (asN (asN (asN (asS MV (asS MU (asS MT (asS MS (asN (asN (asN (asN (asS MR (asN (asN (asS MQ (asN (asN (asN (asN (asS MP (asN (asN (asN (asN (asN (asN (asN (asN (asN (asN (asN (asN (asN (asN (asN (asN (asN (asN (asN (asN (asN (asN (asS MO (asS MN (asS MM (asS ML asE)))))))))))))))))))))))))))))))))))))))))))))))))))))))))))))))))))))))))))))))))))))))))))))))))))))))))))))))))))))))))))))))))))))))))))))))))))))))))))))))))))))))))))))))))))))))))))))))))))))))))))))))))))))))))))))))))))))))))))))))))))))))))))))))))))))))))))))))))))))))))))))))))))))))))))))))))))))))))))))))))))))))))))))))))))))))))))))))))))))))))))))))))))))))))))))))))))))))))))))))))))))))))))))))))))))))))))))))))))))))))))))))))))))))))))))))))))))))))))))))))))))))))))))))))))))))))))))))))))))
theorem Ea : o9 Tryz.prog [3] 1000000 lG := Kf a1Y (by kernel_rfl) (by unfold rQ; decide) fun f hf hb => by
 by_cases h0 : f < 106
 · exact ei a2a f (by omega) (by omega) hb
 by_cases h1 : f < 213
 · exact ei a21 f (by omega) (by omega) hb
 by_cases h2 : f < 341
 · exact ei a20 f (by omega) (by omega) hb
 exact ei a1Z f (by omega) (by omega) hb
end Go.Proofs.YtcolbcpeialmhaaGreatDoor
