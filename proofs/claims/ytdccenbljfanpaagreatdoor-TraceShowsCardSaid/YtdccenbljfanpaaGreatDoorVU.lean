/- What a call of each comes to: its body, one level down. -/
import Derived.Test.YtdccenbljfanpaaGreatDoorVL
import Derived.Test.YtdccenbljfanpaaGreatDoorAfA
import Derived.KernelRfl
namespace Go.Proofs.YtdccenbljfanpaaGreatDoor
open Go.Ab
set_option maxRecDepth 100000
variable (prim : Prims)
/-- A call, to so many levels. -/
noncomputable abbrev VE (n : Nat) : CallFn := evH V_tab prim n
theorem U_gantlinelaw26_TraceKnown (hp : prim n_gantlinelaw26_TraceKnown = none) (n : Nat) (H : AHeap) : VE prim (n + 1) n_gantlinelaw26_TraceKnown [] H = S_gantlinelaw26_TraceKnown_6 (VE prim n) H :=
  (evH_at (tab := V_tab) (s := S_gantlinelaw26_TraceKnown) hp (tabS_at (by kernel_rfl)) _ _).trans (by simp only [S_gantlinelaw26_TraceKnown, argA0_at])
theorem U_gantlinelaw26_TraceShows (hp : prim n_gantlinelaw26_TraceShows = none) (n : Nat) (t0 t1 t2 : AV) (H : AHeap) : VE prim (n + 1) n_gantlinelaw26_TraceShows [t0, t1, t2] H = S_gantlinelaw26_TraceShows_2 (VE prim n) t0 t1 t2 H :=
  (evH_at (tab := V_tab) (s := S_gantlinelaw26_TraceShows) hp (tabS_at (by kernel_rfl)) _ _).trans (by simp only [S_gantlinelaw26_TraceShows, argA3_at])
theorem U_gantlinelaw26_awake (hp : prim n_gantlinelaw26_awake = none) (n : Nat) (H : AHeap) : VE prim (n + 1) n_gantlinelaw26_awake [] H = S_gantlinelaw26_awake_5 (VE prim n) H :=
  (evH_at (tab := V_tab) (s := S_gantlinelaw26_awake) hp (tabS_at (by kernel_rfl)) _ _).trans (by simp only [S_gantlinelaw26_awake, argA0_at])
theorem U_trace_Again (hp : prim n_trace_Again = none) (n : Nat) (t0 t1 t2 : AV) (H : AHeap) : VE prim (n + 1) n_trace_Again [t0, t1, t2] H = S_trace_Again_3 (VE prim n) t0 t1 t2 H :=
  (evH_at (tab := V_tab) (s := S_trace_Again) hp (tabS_at (by kernel_rfl)) _ _).trans (by simp only [S_trace_Again, argA3_at])
theorem U_gantlinelaw26_prints (hp : prim n_gantlinelaw26_prints = none) (n : Nat) (H : AHeap) : VE prim (n + 1) n_gantlinelaw26_prints [] H = S_gantlinelaw26_prints_0 (VE prim n) H :=
  (evH_at (tab := V_tab) (s := S_gantlinelaw26_prints) hp (tabS_at (by kernel_rfl)) _ _).trans (by simp only [S_gantlinelaw26_prints, argA0_at])
theorem U_trace_Show (hp : prim n_trace_Show = none) (n : Nat) (t0 : AV) (H : AHeap) : VE prim (n + 1) n_trace_Show [t0] H = S_trace_Show_2 (VE prim n) t0 H :=
  (evH_at (tab := V_tab) (s := S_trace_Show) hp (tabS_at (by kernel_rfl)) _ _).trans (by simp only [S_trace_Show, argA1_at])
theorem U_trace_Order (hp : prim n_trace_Order = none) (n : Nat) (t0 : AV) (H : AHeap) : VE prim (n + 1) n_trace_Order [t0] H = S_trace_Order_1 (VE prim n) t0 H :=
  (evH_at (tab := V_tab) (s := S_trace_Order) hp (tabS_at (by kernel_rfl)) _ _).trans (by simp only [S_trace_Order, argA1_at])
theorem U_gantlineref9_Text (hp : prim n_gantlineref9_Text = none) (n : Nat) (t0 : AV) (H : AHeap) : VE prim (n + 1) n_gantlineref9_Text [t0] H = S_gantlineref9_Text_0 (VE prim n) t0 H :=
  (evH_at (tab := V_tab) (s := S_gantlineref9_Text) hp (tabS_at (by kernel_rfl)) _ _).trans (by simp only [S_gantlineref9_Text, argA1_at])
theorem U_gantlineref9_Name (hp : prim n_gantlineref9_Name = none) (n : Nat) (t0 : AV) (H : AHeap) : VE prim (n + 1) n_gantlineref9_Name [t0] H = S_gantlineref9_Name_1 (VE prim n) t0 H :=
  (evH_at (tab := V_tab) (s := S_gantlineref9_Name) hp (tabS_at (by kernel_rfl)) _ _).trans (by simp only [S_gantlineref9_Name, argA1_at])
theorem U_run_Run (hp : prim n_run_Run = none) (n : Nat) (t0 t1 t2 : AV) (H : AHeap) : VE prim (n + 1) n_run_Run [t0, t1, t2] H = S_run_Run_2 (VE prim n) t0 t1 t2 H :=
  (evH_at (tab := V_tab) (s := S_run_Run) hp (tabS_at (by kernel_rfl)) _ _).trans (by simp only [S_run_Run, argA3_at])
theorem U_gantlineref17_Ints (hp : prim n_gantlineref17_Ints = none) (n : Nat) (t0 t1 : AV) (H : AHeap) : VE prim (n + 1) n_gantlineref17_Ints [t0, t1] H = S_gantlineref17_Ints_1 (VE prim n) t0 t1 H :=
  (evH_at (tab := V_tab) (s := S_gantlineref17_Ints) hp (tabS_at (by kernel_rfl)) _ _).trans (by simp only [S_gantlineref17_Ints, argA2_at])
theorem U_gantlineref17_Nums (hp : prim n_gantlineref17_Nums = none) (n : Nat) (t0 t1 : AV) (H : AHeap) : VE prim (n + 1) n_gantlineref17_Nums [t0, t1] H = S_gantlineref17_Nums_1 (VE prim n) t0 t1 H :=
  (evH_at (tab := V_tab) (s := S_gantlineref17_Nums) hp (tabS_at (by kernel_rfl)) _ _).trans (by simp only [S_gantlineref17_Nums, argA2_at])
theorem U_vm_New (hp : prim n_vm_New = none) (n : Nat) (t0 t1 : AV) (H : AHeap) : VE prim (n + 1) n_vm_New [t0, t1] H = S_vm_New_0 (VE prim n) t0 t1 H :=
  (evH_at (tab := V_tab) (s := S_vm_New) hp (tabS_at (by kernel_rfl)) _ _).trans (by simp only [S_vm_New, argA2_at])
theorem U_trace_player_act (hp : prim n_trace_player_act = none) (n : Nat) (t0 t1 : AV) (H : AHeap) : VE prim (n + 1) n_trace_player_act [t0, t1] H = S_trace_player_act_4 (VE prim n) t0 t1 H :=
  (evH_at (tab := V_tab) (s := S_trace_player_act) hp (tabS_at (by kernel_rfl)) _ _).trans (by simp only [S_trace_player_act, argA2_at])
theorem U_run_Told (hp : prim n_run_Told = none) (n : Nat) (t0 t1 : AV) (H : AHeap) : VE prim (n + 1) n_run_Told [t0, t1] H = S_run_Told_0 (VE prim n) t0 t1 H :=
  (evH_at (tab := V_tab) (s := S_run_Told) hp (tabS_at (by kernel_rfl)) _ _).trans (by simp only [S_run_Told, argA2_at])
theorem U_code_Name (hp : prim n_code_Name = none) (n : Nat) (t0 : AV) (H : AHeap) : VE prim (n + 1) n_code_Name [t0] H = S_code_Name_0 (VE prim n) t0 H :=
  (evH_at (tab := V_tab) (s := S_code_Name) hp (tabS_at (by kernel_rfl)) _ _).trans (by simp only [S_code_Name, argA1_at])
theorem U_run_One (hp : prim n_run_One = none) (n : Nat) (t0 t1 : AV) (H : AHeap) : VE prim (n + 1) n_run_One [t0, t1] H = S_run_One_1 (VE prim n) t0 t1 H :=
  (evH_at (tab := V_tab) (s := S_run_One) hp (tabS_at (by kernel_rfl)) _ _).trans (by simp only [S_run_One, argA2_at])
theorem U_verify_Module (hp : prim n_verify_Module = none) (n : Nat) (t0 : AV) (H : AHeap) : VE prim (n + 1) n_verify_Module [t0] H = S_verify_Module_0 (VE prim n) t0 H :=
  (evH_at (tab := V_tab) (s := S_verify_Module) hp (tabS_at (by kernel_rfl)) _ _).trans (by simp only [S_verify_Module, argA1_at])
theorem U_heap_New (hp : prim n_heap_New = none) (n : Nat) (t0 t1 : AV) (H : AHeap) : VE prim (n + 1) n_heap_New [t0, t1] H = S_heap_New_2 (VE prim n) t0 t1 H :=
  (evH_at (tab := V_tab) (s := S_heap_New) hp (tabS_at (by kernel_rfl)) _ _).trans (by simp only [S_heap_New, argA2_at])
theorem U_vm_clone (hp : prim n_vm_clone = none) (n : Nat) (t0 : AV) (H : AHeap) : VE prim (n + 1) n_vm_clone [t0] H = S_vm_clone_2 (VE prim n) t0 H :=
  (evH_at (tab := V_tab) (s := S_vm_clone) hp (tabS_at (by kernel_rfl)) _ _).trans (by simp only [S_vm_clone, argA1_at])
theorem U_sched_New (hp : prim n_sched_New = none) (n : Nat) (t0 : AV) (H : AHeap) : VE prim (n + 1) n_sched_New [t0] H = S_sched_New_0 (VE prim n) t0 H :=
  (evH_at (tab := V_tab) (s := S_sched_New) hp (tabS_at (by kernel_rfl)) _ _).trans (by simp only [S_sched_New, argA1_at])
theorem U_sched_Table_Add (hp : prim n_sched_Table_Add = none) (n : Nat) (t0 t1 t2 : AV) (H : AHeap) : VE prim (n + 1) n_sched_Table_Add [t0, t1, t2] H = S_sched_Table_Add_0 (VE prim n) t0 t1 t2 H :=
  (evH_at (tab := V_tab) (s := S_sched_Table_Add) hp (tabS_at (by kernel_rfl)) _ _).trans (by simp only [S_sched_Table_Add, argA3_at])
theorem U_vm_Machine_settle (hp : prim n_vm_Machine_settle = none) (n : Nat) (t0 : AV) (H : AHeap) : VE prim (n + 1) n_vm_Machine_settle [t0] H = S_vm_Machine_settle_11 (VE prim n) t0 H :=
  (evH_at (tab := V_tab) (s := S_vm_Machine_settle) hp (tabS_at (by kernel_rfl)) _ _).trans (by simp only [S_vm_Machine_settle, argA1_at])
theorem U_trace_player_lead (hp : prim n_trace_player_lead = none) (n : Nat) (t0 t1 : AV) (H : AHeap) : VE prim (n + 1) n_trace_player_lead [t0, t1] H = S_trace_player_lead_0 (VE prim n) 1000000 t0 t1 H :=
  (evH_at (tab := V_tab) (s := S_trace_player_lead) hp (tabS_at (by kernel_rfl)) _ _).trans (by simp only [S_trace_player_lead, argA2_at])
theorem U_vm_Machine_Acts (hp : prim n_vm_Machine_Acts = none) (n : Nat) (t0 : AV) (H : AHeap) : VE prim (n + 1) n_vm_Machine_Acts [t0] H = S_vm_Machine_Acts_0 (VE prim n) t0 H :=
  (evH_at (tab := V_tab) (s := S_vm_Machine_Acts) hp (tabS_at (by kernel_rfl)) _ _).trans (by simp only [S_vm_Machine_Acts, argA1_at])
theorem U_slices_Index_sched_Way (hp : prim n_slices_Index_sched_Way = none) (n : Nat) (t0 t1 : AV) (H : AHeap) : VE prim (n + 1) n_slices_Index_sched_Way [t0, t1] H = S_slices_Index_sched_Way_1 (VE prim n) t0 t1 H :=
  (evH_at (tab := V_tab) (s := S_slices_Index_sched_Way) hp (tabS_at (by kernel_rfl)) _ _).trans (by simp only [S_slices_Index_sched_Way, argA2_at])
theorem U_vm_Machine_WaysOf (hp : prim n_vm_Machine_WaysOf = none) (n : Nat) (t0 t1 : AV) (H : AHeap) : VE prim (n + 1) n_vm_Machine_WaysOf [t0, t1] H = S_vm_Machine_WaysOf_0 (VE prim n) t0 t1 H :=
  (evH_at (tab := V_tab) (s := S_vm_Machine_WaysOf) hp (tabS_at (by kernel_rfl)) _ _).trans (by simp only [S_vm_Machine_WaysOf, argA2_at])
theorem U_trace_player_do (hp : prim n_trace_player_do = none) (n : Nat) (t0 t1 t2 : AV) (H : AHeap) : VE prim (n + 1) n_trace_player_do [t0, t1, t2] H = S_trace_player_do_1 (VE prim n) t0 t1 t2 H :=
  (evH_at (tab := V_tab) (s := S_trace_player_do) hp (tabS_at (by kernel_rfl)) _ _).trans (by simp only [S_trace_player_do, argA3_at])
theorem U_vm_Machine_End (hp : prim n_vm_Machine_End = none) (n : Nat) (t0 : AV) (H : AHeap) : VE prim (n + 1) n_vm_Machine_End [t0] H = S_vm_Machine_End_0 (VE prim n) t0 H :=
  (evH_at (tab := V_tab) (s := S_vm_Machine_End) hp (tabS_at (by kernel_rfl)) _ _).trans (by simp only [S_vm_Machine_End, argA1_at])
theorem U_vm_Machine_Out (hp : prim n_vm_Machine_Out = none) (n : Nat) (t0 : AV) (H : AHeap) : VE prim (n + 1) n_vm_Machine_Out [t0] H = S_vm_Machine_Out_0 (VE prim n) t0 H :=
  (evH_at (tab := V_tab) (s := S_vm_Machine_Out) hp (tabS_at (by kernel_rfl)) _ _).trans (by simp only [S_vm_Machine_Out, argA1_at])
theorem U_vm_Machine_Heap (hp : prim n_vm_Machine_Heap = none) (n : Nat) (t0 : AV) (H : AHeap) : VE prim (n + 1) n_vm_Machine_Heap [t0] H = S_vm_Machine_Heap_0 (VE prim n) t0 H :=
  (evH_at (tab := V_tab) (s := S_vm_Machine_Heap) hp (tabS_at (by kernel_rfl)) _ _).trans (by simp only [S_vm_Machine_Heap, argA1_at])
theorem U_heap_Heap_Cycle (hp : prim n_heap_Heap_Cycle = none) (n : Nat) (t0 : AV) (H : AHeap) : VE prim (n + 1) n_heap_Heap_Cycle [t0] H = S_heap_Heap_Cycle_0 (VE prim n) t0 H :=
  (evH_at (tab := V_tab) (s := S_heap_Heap_Cycle) hp (tabS_at (by kernel_rfl)) _ _).trans (by simp only [S_heap_Heap_Cycle, argA1_at])
theorem U_cycle_Cycle_Done (hp : prim n_cycle_Cycle_Done = none) (n : Nat) (t0 : AV) (H : AHeap) : VE prim (n + 1) n_cycle_Cycle_Done [t0] H = S_cycle_Cycle_Done_0 (VE prim n) t0 H :=
  (evH_at (tab := V_tab) (s := S_cycle_Cycle_Done) hp (tabS_at (by kernel_rfl)) _ _).trans (by simp only [S_cycle_Cycle_Done, argA1_at])
theorem U_heap_Heap_Forced (hp : prim n_heap_Heap_Forced = none) (n : Nat) (t0 : AV) (H : AHeap) : VE prim (n + 1) n_heap_Heap_Forced [t0] H = S_heap_Heap_Forced_0 (VE prim n) t0 H :=
  (evH_at (tab := V_tab) (s := S_heap_Heap_Forced) hp (tabS_at (by kernel_rfl)) _ _).trans (by simp only [S_heap_Heap_Forced, argA1_at])
theorem U_internal_strconv_Itoa (hp : prim n_internal_strconv_Itoa = none) (n : Nat) (t0 : AV) (H : AHeap) : VE prim (n + 1) n_internal_strconv_Itoa [t0] H = S_internal_strconv_Itoa_0 (VE prim n) t0 H :=
  (evH_at (tab := V_tab) (s := S_internal_strconv_Itoa) hp (tabS_at (by kernel_rfl)) _ _).trans (by simp only [S_internal_strconv_Itoa, argA1_at])
theorem U_code_find (hp : prim n_code_find = none) (n : Nat) (t0 : AV) (H : AHeap) : VE prim (n + 1) n_code_find [t0] H = S_code_find_1 (VE prim n) t0 H :=
  (evH_at (tab := V_tab) (s := S_code_find) hp (tabS_at (by kernel_rfl)) _ _).trans (by simp only [S_code_find, argA1_at])
theorem U_vm_Machine_Enabled (hp : prim n_vm_Machine_Enabled = none) (n : Nat) (t0 : AV) (H : AHeap) : VE prim (n + 1) n_vm_Machine_Enabled [t0] H = S_vm_Machine_Enabled_0 (VE prim n) t0 H :=
  (evH_at (tab := V_tab) (s := S_vm_Machine_Enabled) hp (tabS_at (by kernel_rfl)) _ _).trans (by simp only [S_vm_Machine_Enabled, argA1_at])
theorem U_vm_Machine_Do (hp : prim n_vm_Machine_Do = none) (n : Nat) (t0 t1 t2 : AV) (H : AHeap) : VE prim (n + 1) n_vm_Machine_Do [t0, t1, t2] H = S_vm_Machine_Do_4 (VE prim n) t0 t1 t2 H :=
  (evH_at (tab := V_tab) (s := S_vm_Machine_Do) hp (tabS_at (by kernel_rfl)) _ _).trans (by simp only [S_vm_Machine_Do, argA3_at])
theorem U_vm_Machine_Ways (hp : prim n_vm_Machine_Ways = none) (n : Nat) (t0 t1 : AV) (H : AHeap) : VE prim (n + 1) n_vm_Machine_Ways [t0, t1] H = S_vm_Machine_Ways_0 (VE prim n) t0 t1 H :=
  (evH_at (tab := V_tab) (s := S_vm_Machine_Ways) hp (tabS_at (by kernel_rfl)) _ _).trans (by simp only [S_vm_Machine_Ways, argA2_at])
theorem U_verify_Check (hp : prim n_verify_Check = none) (n : Nat) (t0 : AV) (H : AHeap) : VE prim (n + 1) n_verify_Check [t0] H = S_verify_Check_0 (VE prim n) t0 H :=
  (evH_at (tab := V_tab) (s := S_verify_Check) hp (tabS_at (by kernel_rfl)) _ _).trans (by simp only [S_verify_Check, argA1_at])
theorem U_cycle_New (hp : prim n_cycle_New = none) (n : Nat) (t0 : AV) (H : AHeap) : VE prim (n + 1) n_cycle_New [t0] H = S_cycle_New_0 (VE prim n) t0 H :=
  (evH_at (tab := V_tab) (s := S_cycle_New) hp (tabS_at (by kernel_rfl)) _ _).trans (by simp only [S_cycle_New, argA1_at])
theorem U_slices_Clone_head_Shape (hp : prim n_slices_Clone_head_Shape = none) (n : Nat) (t0 : AV) (H : AHeap) : VE prim (n + 1) n_slices_Clone_head_Shape [t0] H = S_slices_Clone_head_Shape_0 (VE prim n) t0 H :=
  (evH_at (tab := V_tab) (s := S_slices_Clone_head_Shape) hp (tabS_at (by kernel_rfl)) _ _).trans (by simp only [S_slices_Clone_head_Shape, argA1_at])
theorem U_slices_Clone_bool (hp : prim n_slices_Clone_bool = none) (n : Nat) (t0 : AV) (H : AHeap) : VE prim (n + 1) n_slices_Clone_bool [t0] H = S_slices_Clone_bool_0 (VE prim n) t0 H :=
  (evH_at (tab := V_tab) (s := S_slices_Clone_bool) hp (tabS_at (by kernel_rfl)) _ _).trans (by simp only [S_slices_Clone_bool, argA1_at])
theorem U_slices_Clone_int64 (hp : prim n_slices_Clone_int64 = none) (n : Nat) (t0 : AV) (H : AHeap) : VE prim (n + 1) n_slices_Clone_int64 [t0] H = S_slices_Clone_int64_0 (VE prim n) t0 H :=
  (evH_at (tab := V_tab) (s := S_slices_Clone_int64) hp (tabS_at (by kernel_rfl)) _ _).trans (by simp only [S_slices_Clone_int64, argA1_at])
theorem U_slices_Clone_code_Case (hp : prim n_slices_Clone_code_Case = none) (n : Nat) (t0 : AV) (H : AHeap) : VE prim (n + 1) n_slices_Clone_code_Case [t0] H = S_slices_Clone_code_Case_0 (VE prim n) t0 H :=
  (evH_at (tab := V_tab) (s := S_slices_Clone_code_Case) hp (tabS_at (by kernel_rfl)) _ _).trans (by simp only [S_slices_Clone_code_Case, argA1_at])
theorem U_slices_Clone_code_Func (hp : prim n_slices_Clone_code_Func = none) (n : Nat) (t0 : AV) (H : AHeap) : VE prim (n + 1) n_slices_Clone_code_Func [t0] H = S_slices_Clone_code_Func_0 (VE prim n) t0 H :=
  (evH_at (tab := V_tab) (s := S_slices_Clone_code_Func) hp (tabS_at (by kernel_rfl)) _ _).trans (by simp only [S_slices_Clone_code_Func, argA1_at])
theorem U_slices_Clone_code_Instr (hp : prim n_slices_Clone_code_Instr = none) (n : Nat) (t0 : AV) (H : AHeap) : VE prim (n + 1) n_slices_Clone_code_Instr [t0] H = S_slices_Clone_code_Instr_0 (VE prim n) t0 H :=
  (evH_at (tab := V_tab) (s := S_slices_Clone_code_Instr) hp (tabS_at (by kernel_rfl)) _ _).trans (by simp only [S_slices_Clone_code_Instr, argA1_at])
theorem U_slices_Clone_uint64 (hp : prim n_slices_Clone_uint64 = none) (n : Nat) (t0 : AV) (H : AHeap) : VE prim (n + 1) n_slices_Clone_uint64 [t0] H = S_slices_Clone_uint64_0 (VE prim n) t0 H :=
  (evH_at (tab := V_tab) (s := S_slices_Clone_uint64) hp (tabS_at (by kernel_rfl)) _ _).trans (by simp only [S_slices_Clone_uint64, argA1_at])
theorem U_frame_New (hp : prim n_frame_New = none) (n : Nat) (t0 t1 t2 : AV) (H : AHeap) : VE prim (n + 1) n_frame_New [t0, t1, t2] H = S_frame_New_0 (VE prim n) t0 t1 t2 H :=
  (evH_at (tab := V_tab) (s := S_frame_New) hp (tabS_at (by kernel_rfl)) _ _).trans (by simp only [S_frame_New, argA3_at])
theorem U_sched_Table_Enabled (hp : prim n_sched_Table_Enabled = none) (n : Nat) (t0 t1 : AV) (H : AHeap) : VE prim (n + 1) n_sched_Table_Enabled [t0, t1] H = S_sched_Table_Enabled_0 (VE prim n) t0 t1 H :=
  (evH_at (tab := V_tab) (s := S_sched_Table_Enabled) hp (tabS_at (by kernel_rfl)) _ _).trans (by simp only [S_sched_Table_Enabled, argA2_at])
theorem U_vm_Machine_Next (hp : prim n_vm_Machine_Next = none) (n : Nat) (t0 t1 : AV) (H : AHeap) : VE prim (n + 1) n_vm_Machine_Next [t0, t1] H = S_vm_Machine_Next_5 (VE prim n) t0 t1 H :=
  (evH_at (tab := V_tab) (s := S_vm_Machine_Next) hp (tabS_at (by kernel_rfl)) _ _).trans (by simp only [S_vm_Machine_Next, argA2_at])
theorem U_slices_Clone_vm_Act (hp : prim n_slices_Clone_vm_Act = none) (n : Nat) (t0 : AV) (H : AHeap) : VE prim (n + 1) n_slices_Clone_vm_Act [t0] H = S_slices_Clone_vm_Act_0 (VE prim n) t0 H :=
  (evH_at (tab := V_tab) (s := S_slices_Clone_vm_Act) hp (tabS_at (by kernel_rfl)) _ _).trans (by simp only [S_slices_Clone_vm_Act, argA1_at])
theorem U_sched_Table_Ways (hp : prim n_sched_Table_Ways = none) (n : Nat) (t0 t1 t2 : AV) (H : AHeap) : VE prim (n + 1) n_sched_Table_Ways [t0, t1, t2] H = S_sched_Table_Ways_5 (VE prim n) t0 t1 t2 H :=
  (evH_at (tab := V_tab) (s := S_sched_Table_Ways) hp (tabS_at (by kernel_rfl)) _ _).trans (by simp only [S_sched_Table_Ways, argA3_at])
theorem U_internal_strconv_FormatInt (hp : prim n_internal_strconv_FormatInt = none) (n : Nat) (t0 t1 : AV) (H : AHeap) : VE prim (n + 1) n_internal_strconv_FormatInt [t0, t1] H = S_internal_strconv_FormatInt_2 (VE prim n) t0 t1 H :=
  (evH_at (tab := V_tab) (s := S_internal_strconv_FormatInt) hp (tabS_at (by kernel_rfl)) _ _).trans (by simp only [S_internal_strconv_FormatInt, argA2_at])
theorem U_sched_Table_Stack (hp : prim n_sched_Table_Stack = none) (n : Nat) (t0 t1 : AV) (H : AHeap) : VE prim (n + 1) n_sched_Table_Stack [t0, t1] H = S_sched_Table_Stack_0 (VE prim n) t0 t1 H :=
  (evH_at (tab := V_tab) (s := S_sched_Table_Stack) hp (tabS_at (by kernel_rfl)) _ _).trans (by simp only [S_sched_Table_Stack, argA2_at])
theorem U_frame_Stack_At (hp : prim n_frame_Stack_At = none) (n : Nat) (t0 t1 : AV) (H : AHeap) : VE prim (n + 1) n_frame_Stack_At [t0, t1] H = S_frame_Stack_At_33 (VE prim n) t0 t1 H :=
  (evH_at (tab := V_tab) (s := S_frame_Stack_At) hp (tabS_at (by kernel_rfl)) _ _).trans (by simp only [S_frame_Stack_At, argA2_at])
theorem U_frame_Stack_Top (hp : prim n_frame_Stack_Top = none) (n : Nat) (t0 : AV) (H : AHeap) : VE prim (n + 1) n_frame_Stack_Top [t0] H = S_frame_Stack_Top_0 (VE prim n) t0 H :=
  (evH_at (tab := V_tab) (s := S_frame_Stack_Top) hp (tabS_at (by kernel_rfl)) _ _).trans (by simp only [S_frame_Stack_Top, argA1_at])
theorem U_vm_isAct (hp : prim n_vm_isAct = none) (n : Nat) (t0 t1 : AV) (H : AHeap) : VE prim (n + 1) n_vm_isAct [t0, t1] H = S_vm_isAct_5 (VE prim n) t0 t1 H :=
  (evH_at (tab := V_tab) (s := S_vm_isAct) hp (tabS_at (by kernel_rfl)) _ _).trans (by simp only [S_vm_isAct, argA2_at])
theorem U_frame_Stack_Depth (hp : prim n_frame_Stack_Depth = none) (n : Nat) (t0 : AV) (H : AHeap) : VE prim (n + 1) n_frame_Stack_Depth [t0] H = S_frame_Stack_Depth_0 (VE prim n) t0 H :=
  (evH_at (tab := V_tab) (s := S_frame_Stack_Depth) hp (tabS_at (by kernel_rfl)) _ _).trans (by simp only [S_frame_Stack_Depth, argA1_at])
theorem U_vm_doing_do (hp : prim n_vm_doing_do = none) (n : Nat) (t0 : AV) (H : AHeap) : VE prim (n + 1) n_vm_doing_do [t0] H = S_vm_doing_do_5 (VE prim n) t0 H :=
  (evH_at (tab := V_tab) (s := S_vm_doing_do) hp (tabS_at (by kernel_rfl)) _ _).trans (by simp only [S_vm_doing_do, argA1_at])
theorem U_verify_Without (hp : prim n_verify_Without = none) (n : Nat) (t0 t1 : AV) (H : AHeap) : VE prim (n + 1) n_verify_Without [t0, t1] H = S_verify_Without_9 (VE prim n) t0 t1 H :=
  (evH_at (tab := V_tab) (s := S_verify_Without) hp (tabS_at (by kernel_rfl)) _ _).trans (by simp only [S_verify_Without, argA2_at])
theorem U_arena_New (hp : prim n_arena_New = none) (n : Nat) (t0 : AV) (H : AHeap) : VE prim (n + 1) n_arena_New [t0] H = S_arena_New_2 (VE prim n) t0 H :=
  (evH_at (tab := V_tab) (s := S_arena_New) hp (tabS_at (by kernel_rfl)) _ _).trans (by simp only [S_arena_New, argA1_at])
theorem U_head_New (hp : prim n_head_New = none) (n : Nat) (H : AHeap) : VE prim (n + 1) n_head_New [] H = S_head_New_0 (VE prim n) H :=
  (evH_at (tab := V_tab) (s := S_head_New) hp (tabS_at (by kernel_rfl)) _ _).trans (by simp only [S_head_New, argA0_at])
theorem U_alloc_New (hp : prim n_alloc_New = none) (n : Nat) (t0 : AV) (H : AHeap) : VE prim (n + 1) n_alloc_New [t0] H = S_alloc_New_0 (VE prim n) t0 H :=
  (evH_at (tab := V_tab) (s := S_alloc_New) hp (tabS_at (by kernel_rfl)) _ _).trans (by simp only [S_alloc_New, argA1_at])
theorem U_mark_New (hp : prim n_mark_New = none) (n : Nat) (t0 t1 : AV) (H : AHeap) : VE prim (n + 1) n_mark_New [t0, t1] H = S_mark_New_0 (VE prim n) t0 t1 H :=
  (evH_at (tab := V_tab) (s := S_mark_New) hp (tabS_at (by kernel_rfl)) _ _).trans (by simp only [S_mark_New, argA2_at])
theorem U_frame_begin (hp : prim n_frame_begin = none) (n : Nat) (t0 t1 t2 : AV) (H : AHeap) : VE prim (n + 1) n_frame_begin [t0, t1, t2] H = S_frame_begin_3 (VE prim n) t0 t1 t2 H :=
  (evH_at (tab := V_tab) (s := S_frame_begin) hp (tabS_at (by kernel_rfl)) _ _).trans (by simp only [S_frame_begin, argA3_at])
theorem U_slices_DeleteFunc_int (hp : prim n_slices_DeleteFunc_int = none) (n : Nat) (t0 t1 : AV) (H : AHeap) : VE prim (n + 1) n_slices_DeleteFunc_int [t0, t1] H = S_slices_DeleteFunc_int_3 (VE prim n) t0 t1 H :=
  (evH_at (tab := V_tab) (s := S_slices_DeleteFunc_int) hp (tabS_at (by kernel_rfl)) _ _).trans (by simp only [S_slices_DeleteFunc_int, argA2_at])
theorem U_sched_Table_IDs (hp : prim n_sched_Table_IDs = none) (n : Nat) (t0 : AV) (H : AHeap) : VE prim (n + 1) n_sched_Table_IDs [t0] H = S_sched_Table_IDs_0 (VE prim n) t0 H :=
  (evH_at (tab := V_tab) (s := S_sched_Table_IDs) hp (tabS_at (by kernel_rfl)) _ _).trans (by simp only [S_sched_Table_IDs, argA1_at])
theorem U_sched_Table_Enabled_c1 (hp : prim n_sched_Table_Enabled_c1 = none) (n : Nat) (t0 t1 t2 : AV) (H : AHeap) : VE prim (n + 1) n_sched_Table_Enabled_c1 [t0, t1, t2] H = S_sched_Table_Enabled_c1_0 (VE prim n) t0 t1 t2 H :=
  (evH_at (tab := V_tab) (s := S_sched_Table_Enabled_c1) hp (tabS_at (by kernel_rfl)) _ _).trans (by simp only [S_sched_Table_Enabled_c1, argA3_at])
theorem U_internal_strconv_small (hp : prim n_internal_strconv_small = none) (n : Nat) (t0 : AV) (H : AHeap) : VE prim (n + 1) n_internal_strconv_small [t0] H = S_internal_strconv_small_0 (VE prim n) t0 H :=
  (evH_at (tab := V_tab) (s := S_internal_strconv_small) hp (tabS_at (by kernel_rfl)) _ _).trans (by simp only [S_internal_strconv_small, argA1_at])
theorem U_frame_Stack_top (hp : prim n_frame_Stack_top = none) (n : Nat) (t0 : AV) (H : AHeap) : VE prim (n + 1) n_frame_Stack_top [t0] H = S_frame_Stack_top_0 (VE prim n) t0 H :=
  (evH_at (tab := V_tab) (s := S_frame_Stack_top) hp (tabS_at (by kernel_rfl)) _ _).trans (by simp only [S_frame_Stack_top, argA1_at])
theorem U_frame_clone (hp : prim n_frame_clone = none) (n : Nat) (t0 : AV) (H : AHeap) : VE prim (n + 1) n_frame_clone [t0] H = S_frame_clone_0 (VE prim n) t0 H :=
  (evH_at (tab := V_tab) (s := S_frame_clone) hp (tabS_at (by kernel_rfl)) _ _).trans (by simp only [S_frame_clone, argA1_at])
theorem U_vm_doing_plain (hp : prim n_vm_doing_plain = none) (n : Nat) (t0 : AV) (H : AHeap) : VE prim (n + 1) n_vm_doing_plain [t0] H = S_vm_doing_plain_0 (VE prim n) t0 H :=
  (evH_at (tab := V_tab) (s := S_vm_doing_plain) hp (tabS_at (by kernel_rfl)) _ _).trans (by simp only [S_vm_doing_plain, argA1_at])
theorem U_vm_doing_calls (hp : prim n_vm_doing_calls = none) (n : Nat) (t0 : AV) (H : AHeap) : VE prim (n + 1) n_vm_doing_calls [t0] H = S_vm_doing_calls_0 (VE prim n) t0 H :=
  (evH_at (tab := V_tab) (s := S_vm_doing_calls) hp (tabS_at (by kernel_rfl)) _ _).trans (by simp only [S_vm_doing_calls, argA1_at])
theorem U_frame_Stack_Get (hp : prim n_frame_Stack_Get = none) (n : Nat) (t0 t1 : AV) (H : AHeap) : VE prim (n + 1) n_frame_Stack_Get [t0, t1] H = S_frame_Stack_Get_2 (VE prim n) t0 t1 H :=
  (evH_at (tab := V_tab) (s := S_frame_Stack_Get) hp (tabS_at (by kernel_rfl)) _ _).trans (by simp only [S_frame_Stack_Get, argA2_at])
theorem U_vm_doing_on (hp : prim n_vm_doing_on = none) (n : Nat) (t0 : AV) (H : AHeap) : VE prim (n + 1) n_vm_doing_on [t0] H = S_vm_doing_on_0 (VE prim n) t0 H :=
  (evH_at (tab := V_tab) (s := S_vm_doing_on) hp (tabS_at (by kernel_rfl)) _ _).trans (by simp only [S_vm_doing_on, argA1_at])
theorem U_verify_module (hp : prim n_verify_module = none) (n : Nat) (t0 : AV) (H : AHeap) : VE prim (n + 1) n_verify_module [t0] H = S_verify_module_10 (VE prim n) t0 H :=
  (evH_at (tab := V_tab) (s := S_verify_module) hp (tabS_at (by kernel_rfl)) _ _).trans (by simp only [S_verify_module, argA1_at])
theorem U_verify_whole (hp : prim n_verify_whole = none) (n : Nat) (t0 : AV) (H : AHeap) : VE prim (n + 1) n_verify_whole [t0] H = S_verify_whole_12 (VE prim n) t0 H :=
  (evH_at (tab := V_tab) (s := S_verify_whole) hp (tabS_at (by kernel_rfl)) _ _).trans (by simp only [S_verify_whole, argA1_at])
theorem U_live_Maps (hp : prim n_live_Maps = none) (n : Nat) (t0 t1 : AV) (H : AHeap) : VE prim (n + 1) n_live_Maps [t0, t1] H = S_live_Maps_4 (VE prim n) t0 t1 H :=
  (evH_at (tab := V_tab) (s := S_live_Maps) hp (tabS_at (by kernel_rfl)) _ _).trans (by simp only [S_live_Maps, argA2_at])
theorem U_slices_Contains_int (hp : prim n_slices_Contains_int = none) (n : Nat) (t0 t1 : AV) (H : AHeap) : VE prim (n + 1) n_slices_Contains_int [t0, t1] H = S_slices_Contains_int_0 (VE prim n) t0 t1 H :=
  (evH_at (tab := V_tab) (s := S_slices_Contains_int) hp (tabS_at (by kernel_rfl)) _ _).trans (by simp only [S_slices_Contains_int, argA2_at])
theorem U_verify_checker_rule (hp : prim n_verify_checker_rule = none) (n : Nat) (t0 t1 : AV) (H : AHeap) : VE prim (n + 1) n_verify_checker_rule [t0, t1] H = S_verify_checker_rule_0 (VE prim n) t0 t1 H :=
  (evH_at (tab := V_tab) (s := S_verify_checker_rule) hp (tabS_at (by kernel_rfl)) _ _).trans (by simp only [S_verify_checker_rule, argA2_at])
theorem U_arena_Arena_Spans (hp : prim n_arena_Arena_Spans = none) (n : Nat) (t0 : AV) (H : AHeap) : VE prim (n + 1) n_arena_Arena_Spans [t0] H = S_arena_Arena_Spans_0 (VE prim n) t0 H :=
  (evH_at (tab := V_tab) (s := S_arena_Arena_Spans) hp (tabS_at (by kernel_rfl)) _ _).trans (by simp only [S_arena_Arena_Spans, argA1_at])
theorem U_grey_New (hp : prim n_grey_New = none) (n : Nat) (H : AHeap) : VE prim (n + 1) n_grey_New [] H = S_grey_New_0 (VE prim n) H :=
  (evH_at (tab := V_tab) (s := S_grey_New) hp (tabS_at (by kernel_rfl)) _ _).trans (by simp only [S_grey_New, argA0_at])
theorem U_slices_IndexFunc_int (hp : prim n_slices_IndexFunc_int = none) (n : Nat) (t0 t1 : AV) (H : AHeap) : VE prim (n + 1) n_slices_IndexFunc_int [t0, t1] H = S_slices_IndexFunc_int_1 (VE prim n) t0 t1 H :=
  (evH_at (tab := V_tab) (s := S_slices_IndexFunc_int) hp (tabS_at (by kernel_rfl)) _ _).trans (by simp only [S_slices_IndexFunc_int, argA2_at])
theorem U_maps_Keys_int__frame_Stack (hp : prim n_maps_Keys_int__frame_Stack = none) (n : Nat) (t0 : AV) (H : AHeap) : VE prim (n + 1) n_maps_Keys_int__frame_Stack [t0] H = S_maps_Keys_int__frame_Stack_0 (VE prim n) t0 H :=
  (evH_at (tab := V_tab) (s := S_maps_Keys_int__frame_Stack) hp (tabS_at (by kernel_rfl)) _ _).trans (by simp only [S_maps_Keys_int__frame_Stack, argA1_at])
theorem U_math_bits_Len64 (hp : prim n_math_bits_Len64 = none) (n : Nat) (t0 : AV) (H : AHeap) : VE prim (n + 1) n_math_bits_Len64 [t0] H = S_math_bits_Len64_3 (VE prim n) t0 H :=
  (evH_at (tab := V_tab) (s := S_math_bits_Len64) hp (tabS_at (by kernel_rfl)) _ _).trans (by simp only [S_math_bits_Len64, argA1_at])
theorem U_vm_doing_give (hp : prim n_vm_doing_give = none) (n : Nat) (t0 t1 : AV) (H : AHeap) : VE prim (n + 1) n_vm_doing_give [t0, t1] H = S_vm_doing_give_0 (VE prim n) t0 t1 H :=
  (evH_at (tab := V_tab) (s := S_vm_doing_give) hp (tabS_at (by kernel_rfl)) _ _).trans (by simp only [S_vm_doing_give, argA2_at])
theorem U_frame_Stack_Jump (hp : prim n_frame_Stack_Jump = none) (n : Nat) (t0 t1 : AV) (H : AHeap) : VE prim (n + 1) n_frame_Stack_Jump [t0, t1] H = S_frame_Stack_Jump_0 (VE prim n) t0 t1 H :=
  (evH_at (tab := V_tab) (s := S_frame_Stack_Jump) hp (tabS_at (by kernel_rfl)) _ _).trans (by simp only [S_frame_Stack_Jump, argA2_at])
theorem U_vm_doing_back (hp : prim n_vm_doing_back = none) (n : Nat) (t0 : AV) (H : AHeap) : VE prim (n + 1) n_vm_doing_back [t0] H = S_vm_doing_back_2 (VE prim n) t0 H :=
  (evH_at (tab := V_tab) (s := S_vm_doing_back) hp (tabS_at (by kernel_rfl)) _ _).trans (by simp only [S_vm_doing_back, argA1_at])
theorem U_verify_module_c2 (hp : prim n_verify_module_c2 = none) (n : Nat) (t0 : AV) (H : AHeap) : VE prim (n + 1) n_verify_module_c2 [t0] H = S_verify_module_c2_0 (VE prim n) t0 H :=
  (evH_at (tab := V_tab) (s := S_verify_module_c2) hp (tabS_at (by kernel_rfl)) _ _).trans (by simp only [S_verify_module_c2, argA1_at])
theorem U_bits_Wrap (hp : prim n_bits_Wrap = none) (n : Nat) (t0 : AV) (H : AHeap) : VE prim (n + 1) n_bits_Wrap [t0] H = S_bits_Wrap_0 (VE prim n) t0 H :=
  (evH_at (tab := V_tab) (s := S_bits_Wrap) hp (tabS_at (by kernel_rfl)) _ _).trans (by simp only [S_bits_Wrap, argA1_at])
theorem U_slices_ContainsFunc_head_Shape (hp : prim n_slices_ContainsFunc_head_Shape = none) (n : Nat) (t0 t1 : AV) (H : AHeap) : VE prim (n + 1) n_slices_ContainsFunc_head_Shape [t0, t1] H = S_slices_ContainsFunc_head_Shape_0 (VE prim n) t0 t1 H :=
  (evH_at (tab := V_tab) (s := S_slices_ContainsFunc_head_Shape) hp (tabS_at (by kernel_rfl)) _ _).trans (by simp only [S_slices_ContainsFunc_head_Shape, argA2_at])
theorem U_slices_ContainsFunc_int64 (hp : prim n_slices_ContainsFunc_int64 = none) (n : Nat) (t0 t1 : AV) (H : AHeap) : VE prim (n + 1) n_slices_ContainsFunc_int64 [t0, t1] H = S_slices_ContainsFunc_int64_0 (VE prim n) t0 t1 H :=
  (evH_at (tab := V_tab) (s := S_slices_ContainsFunc_int64) hp (tabS_at (by kernel_rfl)) _ _).trans (by simp only [S_slices_ContainsFunc_int64, argA2_at])
theorem U_live_Sets (hp : prim n_live_Sets = none) (n : Nat) (t0 t1 : AV) (H : AHeap) : VE prim (n + 1) n_live_Sets [t0, t1] H = S_live_Sets_4 (VE prim n) t0 t1 H :=
  (evH_at (tab := V_tab) (s := S_live_Sets) hp (tabS_at (by kernel_rfl)) _ _).trans (by simp only [S_live_Sets, argA2_at])
theorem U_slices_Index_int (hp : prim n_slices_Index_int = none) (n : Nat) (t0 t1 : AV) (H : AHeap) : VE prim (n + 1) n_slices_Index_int [t0, t1] H = S_slices_Index_int_1 (VE prim n) t0 t1 H :=
  (evH_at (tab := V_tab) (s := S_slices_Index_int) hp (tabS_at (by kernel_rfl)) _ _).trans (by simp only [S_slices_Index_int, argA2_at])
theorem U_verify_checker_slots (hp : prim n_verify_checker_slots = none) (n : Nat) (t0 : AV) (H : AHeap) : VE prim (n + 1) n_verify_checker_slots [t0] H = S_verify_checker_slots_15 (VE prim n) t0 H :=
  (evH_at (tab := V_tab) (s := S_verify_checker_slots) hp (tabS_at (by kernel_rfl)) _ _).trans (by simp only [S_verify_checker_slots, argA1_at])
theorem U_verify_checker_there (hp : prim n_verify_checker_there = none) (n : Nat) (t0 : AV) (H : AHeap) : VE prim (n + 1) n_verify_checker_there [t0] H = S_verify_checker_there_31 (VE prim n) t0 H :=
  (evH_at (tab := V_tab) (s := S_verify_checker_there) hp (tabS_at (by kernel_rfl)) _ _).trans (by simp only [S_verify_checker_there, argA1_at])
theorem U_verify_checker_kinds (hp : prim n_verify_checker_kinds = none) (n : Nat) (t0 : AV) (H : AHeap) : VE prim (n + 1) n_verify_checker_kinds [t0] H = S_verify_checker_kinds_19 (VE prim n) t0 H :=
  (evH_at (tab := V_tab) (s := S_verify_checker_kinds) hp (tabS_at (by kernel_rfl)) _ _).trans (by simp only [S_verify_checker_kinds, argA1_at])
theorem U_verify_checker_on (hp : prim n_verify_checker_on = none) (n : Nat) (t0 : AV) (H : AHeap) : VE prim (n + 1) n_verify_checker_on [t0] H = S_verify_checker_on_4 (VE prim n) t0 H :=
  (evH_at (tab := V_tab) (s := S_verify_checker_on) hp (tabS_at (by kernel_rfl)) _ _).trans (by simp only [S_verify_checker_on, argA1_at])
theorem U_verify_checker_back (hp : prim n_verify_checker_back = none) (n : Nat) (t0 : AV) (H : AHeap) : VE prim (n + 1) n_verify_checker_back [t0] H = S_verify_checker_back_2 (VE prim n) t0 H :=
  (evH_at (tab := V_tab) (s := S_verify_checker_back) hp (tabS_at (by kernel_rfl)) _ _).trans (by simp only [S_verify_checker_back, argA1_at])
theorem U_verify_checker_bare (hp : prim n_verify_checker_bare = none) (n : Nat) (t0 : AV) (H : AHeap) : VE prim (n + 1) n_verify_checker_bare [t0] H = S_verify_checker_bare_2 (VE prim n) t0 H :=
  (evH_at (tab := V_tab) (s := S_verify_checker_bare) hp (tabS_at (by kernel_rfl)) _ _).trans (by simp only [S_verify_checker_bare, argA1_at])
theorem U_slices_Sort_int (hp : prim n_slices_Sort_int = none) (n : Nat) (t0 : AV) (H : AHeap) : VE prim (n + 1) n_slices_Sort_int [t0] H = S_slices_Sort_int_0 (VE prim n) t0 H :=
  (evH_at (tab := V_tab) (s := S_slices_Sort_int) hp (tabS_at (by kernel_rfl)) _ _).trans (by simp only [S_slices_Sort_int, argA1_at])
theorem U_frame_Stack_Set (hp : prim n_frame_Stack_Set = none) (n : Nat) (t0 t1 t2 : AV) (H : AHeap) : VE prim (n + 1) n_frame_Stack_Set [t0, t1, t2] H = S_frame_Stack_Set_2 (VE prim n) t0 t1 t2 H :=
  (evH_at (tab := V_tab) (s := S_frame_Stack_Set) hp (tabS_at (by kernel_rfl)) _ _).trans (by simp only [S_frame_Stack_Set, argA3_at])
theorem U_frame_Stack_Return (hp : prim n_frame_Stack_Return = none) (n : Nat) (t0 : AV) (H : AHeap) : VE prim (n + 1) n_frame_Stack_Return [t0] H = S_frame_Stack_Return_1 (VE prim n) t0 H :=
  (evH_at (tab := V_tab) (s := S_frame_Stack_Return) hp (tabS_at (by kernel_rfl)) _ _).trans (by simp only [S_frame_Stack_Return, argA1_at])
theorem U_sched_Table_Drop (hp : prim n_sched_Table_Drop = none) (n : Nat) (t0 t1 : AV) (H : AHeap) : VE prim (n + 1) n_sched_Table_Drop [t0, t1] H = S_sched_Table_Drop_0 (VE prim n) t0 t1 H :=
  (evH_at (tab := V_tab) (s := S_sched_Table_Drop) hp (tabS_at (by kernel_rfl)) _ _).trans (by simp only [S_sched_Table_Drop, argA2_at])
theorem U_cycle_Cycle_Dies (hp : prim n_cycle_Cycle_Dies = none) (n : Nat) (t0 t1 : AV) (H : AHeap) : VE prim (n + 1) n_cycle_Cycle_Dies [t0, t1] H = S_cycle_Cycle_Dies_0 (VE prim n) t0 t1 H :=
  (evH_at (tab := V_tab) (s := S_cycle_Cycle_Dies) hp (tabS_at (by kernel_rfl)) _ _).trans (by simp only [S_cycle_Cycle_Dies, argA2_at])
theorem U_slices_IndexFunc_head_Shape (hp : prim n_slices_IndexFunc_head_Shape = none) (n : Nat) (t0 t1 : AV) (H : AHeap) : VE prim (n + 1) n_slices_IndexFunc_head_Shape [t0, t1] H = S_slices_IndexFunc_head_Shape_1 (VE prim n) t0 t1 H :=
  (evH_at (tab := V_tab) (s := S_slices_IndexFunc_head_Shape) hp (tabS_at (by kernel_rfl)) _ _).trans (by simp only [S_slices_IndexFunc_head_Shape, argA2_at])
theorem U_slices_IndexFunc_int64 (hp : prim n_slices_IndexFunc_int64 = none) (n : Nat) (t0 t1 : AV) (H : AHeap) : VE prim (n + 1) n_slices_IndexFunc_int64 [t0, t1] H = S_slices_IndexFunc_int64_1 (VE prim n) t0 t1 H :=
  (evH_at (tab := V_tab) (s := S_slices_IndexFunc_int64) hp (tabS_at (by kernel_rfl)) _ _).trans (by simp only [S_slices_IndexFunc_int64, argA2_at])
theorem U_live_Sets_c1 (hp : prim n_live_Sets_c1 = none) (n : Nat) (t0 t1 t2 t3 : AV) (H : AHeap) : VE prim (n + 1) n_live_Sets_c1 [t0, t1, t2, t3] H = S_live_Sets_c1_5 (VE prim n) t0 t1 t2 t3 H :=
  (evH_at (tab := V_tab) (s := S_live_Sets_c1) hp (tabS_at (by kernel_rfl)) _ _).trans (by simp only [S_live_Sets_c1, argA4_at])
theorem U_live_bitsOf (hp : prim n_live_bitsOf = none) (n : Nat) (t0 : AV) (H : AHeap) : VE prim (n + 1) n_live_bitsOf [t0] H = S_live_bitsOf_3 (VE prim n) t0 H :=
  (evH_at (tab := V_tab) (s := S_live_bitsOf) hp (tabS_at (by kernel_rfl)) _ _).trans (by simp only [S_live_bitsOf, argA1_at])
theorem U_live_Follows (hp : prim n_live_Follows = none) (n : Nat) (t0 t1 t2 : AV) (H : AHeap) : VE prim (n + 1) n_live_Follows [t0, t1, t2] H = S_live_Follows_4 (VE prim n) t0 t1 t2 H :=
  (evH_at (tab := V_tab) (s := S_live_Follows) hp (tabS_at (by kernel_rfl)) _ _).trans (by simp only [S_live_Follows, argA3_at])
theorem U_live_Reads (hp : prim n_live_Reads = none) (n : Nat) (t0 t1 : AV) (H : AHeap) : VE prim (n + 1) n_live_Reads [t0, t1] H = S_live_Reads_12 (VE prim n) t0 t1 H :=
  (evH_at (tab := V_tab) (s := S_live_Reads) hp (tabS_at (by kernel_rfl)) _ _).trans (by simp only [S_live_Reads, argA2_at])
theorem U_live_Writes (hp : prim n_live_Writes = none) (n : Nat) (t0 : AV) (H : AHeap) : VE prim (n + 1) n_live_Writes [t0] H = S_live_Writes_10 (VE prim n) t0 H :=
  (evH_at (tab := V_tab) (s := S_live_Writes) hp (tabS_at (by kernel_rfl)) _ _).trans (by simp only [S_live_Writes, argA1_at])
theorem U_verify_checker_slots_c1 (hp : prim n_verify_checker_slots_c1 = none) (n : Nat) (t0 t1 : AV) (H : AHeap) : VE prim (n + 1) n_verify_checker_slots_c1 [t0, t1] H = S_verify_checker_slots_c1_1 (VE prim n) t0 t1 H :=
  (evH_at (tab := V_tab) (s := S_verify_checker_slots_c1) hp (tabS_at (by kernel_rfl)) _ _).trans (by simp only [S_verify_checker_slots_c1, argA2_at])
theorem U_verify_checker_slot (hp : prim n_verify_checker_slot = none) (n : Nat) (t0 t1 : AV) (H : AHeap) : VE prim (n + 1) n_verify_checker_slot [t0, t1] H = S_verify_checker_slot_1 (VE prim n) t0 t1 H :=
  (evH_at (tab := V_tab) (s := S_verify_checker_slot) hp (tabS_at (by kernel_rfl)) _ _).trans (by simp only [S_verify_checker_slot, argA2_at])
theorem U_slices_ContainsFunc_int (hp : prim n_slices_ContainsFunc_int = none) (n : Nat) (t0 t1 : AV) (H : AHeap) : VE prim (n + 1) n_slices_ContainsFunc_int [t0, t1] H = S_slices_ContainsFunc_int_0 (VE prim n) t0 t1 H :=
  (evH_at (tab := V_tab) (s := S_slices_ContainsFunc_int) hp (tabS_at (by kernel_rfl)) _ _).trans (by simp only [S_slices_ContainsFunc_int, argA2_at])
theorem U_verify_checker_slots_c3 (hp : prim n_verify_checker_slots_c3 = none) (n : Nat) (t0 t1 : AV) (H : AHeap) : VE prim (n + 1) n_verify_checker_slots_c3 [t0, t1] H = S_verify_checker_slots_c3_0 (VE prim n) t0 t1 H :=
  (evH_at (tab := V_tab) (s := S_verify_checker_slots_c3) hp (tabS_at (by kernel_rfl)) _ _).trans (by simp only [S_verify_checker_slots_c3, argA2_at])
theorem U_verify_checker_is (hp : prim n_verify_checker_is = none) (n : Nat) (t0 t1 t2 : AV) (H : AHeap) : VE prim (n + 1) n_verify_checker_is [t0, t1, t2] H = S_verify_checker_is_0 (VE prim n) t0 t1 t2 H :=
  (evH_at (tab := V_tab) (s := S_verify_checker_is) hp (tabS_at (by kernel_rfl)) _ _).trans (by simp only [S_verify_checker_is, argA3_at])
theorem U_verify_checker_calls (hp : prim n_verify_checker_calls = none) (n : Nat) (t0 : AV) (H : AHeap) : VE prim (n + 1) n_verify_checker_calls [t0] H = S_verify_checker_calls_15 (VE prim n) t0 H :=
  (evH_at (tab := V_tab) (s := S_verify_checker_calls) hp (tabS_at (by kernel_rfl)) _ _).trans (by simp only [S_verify_checker_calls, argA1_at])
theorem U_verify_checker_targets (hp : prim n_verify_checker_targets = none) (n : Nat) (t0 : AV) (H : AHeap) : VE prim (n + 1) n_verify_checker_targets [t0] H = S_verify_checker_targets_1 (VE prim n) t0 H :=
  (evH_at (tab := V_tab) (s := S_verify_checker_targets) hp (tabS_at (by kernel_rfl)) _ _).trans (by simp only [S_verify_checker_targets, argA1_at])
theorem U_slices_pdqsortOrdered_int (hp : prim n_slices_pdqsortOrdered_int = none) (n : Nat) (t0 t1 t2 t3 : AV) (H : AHeap) : VE prim (n + 1) n_slices_pdqsortOrdered_int [t0, t1, t2, t3] H = S_slices_pdqsortOrdered_int_0 (VE prim n) 1000000 t0 t1 t2 t3 (.bool true) (.bool true) H :=
  (evH_at (tab := V_tab) (s := S_slices_pdqsortOrdered_int) hp (tabS_at (by kernel_rfl)) _ _).trans (by simp only [S_slices_pdqsortOrdered_int, argA4_at])
theorem U_math_bits_Len (hp : prim n_math_bits_Len = none) (n : Nat) (t0 : AV) (H : AHeap) : VE prim (n + 1) n_math_bits_Len [t0] H = S_math_bits_Len_0 (VE prim n) t0 H :=
  (evH_at (tab := V_tab) (s := S_math_bits_Len) hp (tabS_at (by kernel_rfl)) _ _).trans (by simp only [S_math_bits_Len, argA1_at])
theorem U_live_Follows_c1 (hp : prim n_live_Follows_c1 = none) (n : Nat) (t0 t1 : AV) (H : AHeap) : VE prim (n + 1) n_live_Follows_c1 [t0, t1] H = S_live_Follows_c1_1 (VE prim n) t0 t1 H :=
  (evH_at (tab := V_tab) (s := S_live_Follows_c1) hp (tabS_at (by kernel_rfl)) _ _).trans (by simp only [S_live_Follows_c1, argA2_at])
theorem U_slices_Compact_int (hp : prim n_slices_Compact_int = none) (n : Nat) (t0 : AV) (H : AHeap) : VE prim (n + 1) n_slices_Compact_int [t0] H = S_slices_Compact_int_5 (VE prim n) t0 H :=
  (evH_at (tab := V_tab) (s := S_slices_Compact_int) hp (tabS_at (by kernel_rfl)) _ _).trans (by simp only [S_slices_Compact_int, argA1_at])
theorem U_live_given (hp : prim n_live_given = none) (n : Nat) (t0 : AV) (H : AHeap) : VE prim (n + 1) n_live_given [t0] H = S_live_given_0 (VE prim n) t0 H :=
  (evH_at (tab := V_tab) (s := S_live_given) hp (tabS_at (by kernel_rfl)) _ _).trans (by simp only [S_live_given, argA1_at])
theorem U_verify_checker_is_c1 (hp : prim n_verify_checker_is_c1 = none) (n : Nat) (t0 t1 t2 : AV) (H : AHeap) : VE prim (n + 1) n_verify_checker_is_c1 [t0, t1, t2] H = S_verify_checker_is_c1_0 (VE prim n) t0 t1 t2 H :=
  (evH_at (tab := V_tab) (s := S_verify_checker_is_c1) hp (tabS_at (by kernel_rfl)) _ _).trans (by simp only [S_verify_checker_is_c1, argA3_at])
theorem U_slices_insertionSortOrdered_int (hp : prim n_slices_insertionSortOrdered_int = none) (n : Nat) (t0 t1 t2 : AV) (H : AHeap) : VE prim (n + 1) n_slices_insertionSortOrdered_int [t0, t1, t2] H = S_slices_insertionSortOrdered_int_13 (VE prim n) t0 t1 t2 H :=
  (evH_at (tab := V_tab) (s := S_slices_insertionSortOrdered_int) hp (tabS_at (by kernel_rfl)) _ _).trans (by simp only [S_slices_insertionSortOrdered_int, argA3_at])
theorem U_live_given_c1 (hp : prim n_live_given_c1 = none) (n : Nat) (t0 : AV) (H : AHeap) : VE prim (n + 1) n_live_given_c1 [t0] H = S_live_given_c1_0 (VE prim n) t0 H :=
  (evH_at (tab := V_tab) (s := S_live_given_c1) hp (tabS_at (by kernel_rfl)) _ _).trans (by simp only [S_live_given_c1, argA1_at])
theorem L_gantlinelaw26_TraceShows_1 (call : CallFn) (n : Nat) (t0 t1 t2 t7 t8 t9 t10 : AV) (H : AHeap) : S_gantlinelaw26_TraceShows_1 call (n + 1) t0 t1 t2 t7 t8 t9 t10 H = pO (aLen .sl H t0) H fun t29 H =>
  pLss t10 t29 H fun t30 H =>
  onBool t30 (pIa 7 t0 t10 H fun t36 H =>
  pFa 0 t36 H fun t37 H =>
  ldK .none H t37 fun t38 H =>
  pIa 7 t0 t10 H fun t44 H =>
  pFa 1 t44 H fun t45 H =>
  ldK .none H t45 fun t46 H =>
  pC call n_gantlineref9_Text [t38] H fun t39 H =>
  andR (andB (ckV (aLoad .none H t45) t46) true) (
  pAdd t8 t39 H fun t40 H =>
  pAdd t40 (.str [32]) H fun t41 H =>
  pC call n_gantlineref9_Name [t46] H fun t47 H =>
  pAdd t41 t47 H fun t48 H =>
  pAdd t48 (.str [10]) H fun t49 H =>
  pIa 1 t9 t10 H fun t52 H =>
  ldK .none H t52 fun t53 H =>
  pIa 7 t0 t10 H fun t56 H =>
  pFa 0 t56 H fun t57 H =>
  ldK .none H t57 fun t58 H =>
  pNeq t53 t58 H fun t59 H =>
  onBool t59 (some ((.bool false), H)) (pAdd t10 (.int .i64 (.ofNat 1)) H fun t32 H =>
  (S_gantlinelaw26_TraceShows_1 call n) t0 t1 t2 t7 t49 t9 t32 H))) (S_gantlinelaw26_TraceShows_0 call t1 t2 t7 t8 H) := by kernel_rfl
theorem L_trace_Again_1 (call : CallFn) (n : Nat) (t2 t6 t9 t11 t12 : AV) (H : AHeap) : S_trace_Again_1 call (n + 1) t2 t6 t9 t11 t12 H = pO (aLen .sl H t2) H fun t28 H =>
  pLss t12 t28 H fun t29 H =>
  guardA t29 true (pIa 7 t2 t12 H fun t34 H =>
  ldK (.some 7) H t34 fun t35 H =>
  pC call n_trace_player_act [t11, t35] H fun t36 H =>
  S_trace_Again_2 call (S_trace_Again_1 call n) t2 t6 t9 t11 t12 t29 t36 H) (S_trace_Again_2 call (S_trace_Again_1 call n) t2 t6 t9 t11 t12 t29 U H) := by kernel_rfl
theorem L_trace_Show_1 (call : CallFn) (n : Nat) (t1 t3 t7 t8 t9 : AV) (H : AHeap) : S_trace_Show_1 call (n + 1) t1 t3 t7 t8 t9 H = pLss t9 t8 H fun t10 H =>
  onBool t10 (pIa 7 t7 t9 H fun t11 H =>
  ldK (.some 7) H t11 fun t12 H =>
  pNew [(.int .i64 (.ofNat 0)), (.int .i64 (.ofNat 0)), (.int .i64 (.ofNat 0)), (.int .i64 (.ofNat 0)), (.int .i64 (.ofNat 0)), (.int .i64 (.ofNat 0)), (.int .i64 (.ofNat 0))] H fun t5 H =>
  stK 7 H t5 t12 fun _ H =>
  pFa 0 t5 H fun t13 H =>
  ldK .none H t13 fun t14 H =>
  pFa 1 t5 H fun t17 H =>
  ldK .none H t17 fun t18 H =>
  pC call n_strconv_Itoa [t14] H fun t15 H =>
  andR (andB (ckV (aLoad .none H t17) t18) true) (
  pAdd t15 (.str [32]) H fun t16 H =>
  pC call n_code_Name [t18] H fun t19 H =>
  pAdd t16 t19 H fun t20 H =>
  pAdd t20 (.str [10]) H fun t21 H =>
  pC call n_strings_Builder_WriteString [t3, t21] H fun _ H =>
  pAdd t9 (.int .i64 (.ofNat 1)) H fun t23 H =>
  (S_trace_Show_1 call n) t1 t3 t7 t8 t23 H)) (S_trace_Show_0 call t1 t3 H) := by kernel_rfl
theorem L_trace_Order_0 (call : CallFn) (n : Nat) (t3 t7 t8 t9 : AV) (H : AHeap) : S_trace_Order_0 call (n + 1) t3 t7 t8 t9 H = pLss t9 t8 H fun t10 H =>
  onBool t10 (pIa 7 t7 t9 H fun t11 H =>
  ldK (.some 7) H t11 fun t12 H =>
  pNew [(.int .i64 (.ofNat 0)), (.int .i64 (.ofNat 0)), (.int .i64 (.ofNat 0)), (.int .i64 (.ofNat 0)), (.int .i64 (.ofNat 0)), (.int .i64 (.ofNat 0)), (.int .i64 (.ofNat 0))] H fun t5 H =>
  stK 7 H t5 t12 fun _ H =>
  pFa 0 t5 H fun t14 H =>
  ldK .none H t14 fun t15 H =>
  pN (aBsl 1 1 [(.int .i64 (.ofNat 0))] [(0, 1, t15)]) H fun t16 H =>
  pW (aApp 1 8 H t3 t16) fun t17 H =>
  pAdd t9 (.int .i64 (.ofNat 1)) H fun t18 H =>
  (S_trace_Order_0 call n) t17 t7 t8 t18 H) (some (t3, H)) := by kernel_rfl
theorem L_run_Run_1 (call : CallFn) (n : Nat) (t6 t8 t10 t23 t24 t25 : AV) (H : AHeap) : S_run_Run_1 call (n + 1) t6 t8 t10 t23 t24 t25 H = pLss t25 t24 H fun t26 H =>
  onBool t26 (pIa 1 t23 t25 H fun t27 H =>
  ldK .none H t27 fun t28 H =>
  pC call n_run_One [t8, t28] H fun t31 H =>
  pO (aUn .not t31) H fun t32 H =>
  onBool t32 (S_run_Run_0 call t6 t8 t10 H) (pAdd t10 (.int .i64 (.ofNat 1)) H fun t34 H =>
  pAdd t25 (.int .i64 (.ofNat 1)) H fun t35 H =>
  (S_run_Run_1 call n) t6 t8 t34 t23 t24 t35 H)) (S_run_Run_0 call t6 t8 t10 H) := by kernel_rfl
theorem L_gantlineref17_Ints_0 (call : CallFn) (n : Nat) (t0 t1 t5 : AV) (H : AHeap) : S_gantlineref17_Ints_0 call (n + 1) t0 t1 t5 H = pO (aLen .sl H t0) H fun t13 H =>
  pLss t5 t13 H fun t14 H =>
  onBool t14 (pIa 1 t0 t5 H fun t19 H =>
  ldK .none H t19 fun t20 H =>
  pIa 1 t1 t5 H fun t23 H =>
  ldK .none H t23 fun t24 H =>
  pNeq t20 t24 H fun t25 H =>
  onBool t25 (some ((.bool false), H)) (pAdd t5 (.int .i64 (.ofNat 1)) H fun t16 H =>
  (S_gantlineref17_Ints_0 call n) t0 t1 t16 H)) (some ((.bool true), H)) := by kernel_rfl
theorem L_gantlineref17_Nums_0 (call : CallFn) (n : Nat) (t0 t1 t5 : AV) (H : AHeap) : S_gantlineref17_Nums_0 call (n + 1) t0 t1 t5 H = pO (aLen .sl H t0) H fun t13 H =>
  pLss t5 t13 H fun t14 H =>
  onBool t14 (pIa 1 t0 t5 H fun t19 H =>
  ldK .none H t19 fun t20 H =>
  pIa 1 t1 t5 H fun t23 H =>
  ldK .none H t23 fun t24 H =>
  pNeq t20 t24 H fun t25 H =>
  onBool t25 (some ((.bool false), H)) (pAdd t5 (.int .i64 (.ofNat 1)) H fun t16 H =>
  (S_gantlineref17_Nums_0 call n) t0 t1 t16 H)) (some ((.bool true), H)) := by kernel_rfl
theorem L_heap_New_1 (call : CallFn) (n : Nat) (t1 t6 t8 t24 t25 t26 : AV) (H : AHeap) : S_heap_New_1 call (n + 1) t1 t6 t8 t24 t25 t26 H = pLss t26 t25 H fun t27 H =>
  onBool t27 (pIa 3 t24 t26 H fun t28 H =>
  ldK (.some 3) H t28 fun t29 H =>
  pNew [(.int .i64 (.ofNat 0)), (.int .i64 (.ofNat 0)), (.int .u64 (.ofNat 0))] H fun t10 H =>
  stK 3 H t10 t29 fun _ H =>
  ldK (.some 3) H t10 fun t33 H =>
  pC call n_cycle_Cycle_Table [t6] H fun t32 H =>
  andR (andB (ckV (aLoad (.some 3) H t10) t33) true) (
  pC call n_head_Table_Number [t32, t33] H fun t34 H =>
  pExt t34 0 H fun _ H =>
  pExt t34 1 H fun t36 H =>
  pNeq t36 (.int .i64 (.ofNat 0)) H fun t38 H =>
  onBool t38 (some (.tup [.nilp, (.int .i64 (.ofNat 1))], H)) (pAdd t26 (.int .i64 (.ofNat 1)) H fun t39 H =>
  (S_heap_New_1 call n) t1 t6 t8 t24 t25 t39 H))) (S_heap_New_0 call t1 t8 H) := by kernel_rfl
theorem L_vm_clone_1 (call : CallFn) (n : Nat) (t1 t2 t27 t28 : AV) (H : AHeap) : S_vm_clone_1 call (n + 1) t1 t2 t27 t28 H = pLss t28 t27 H fun t29 H =>
  onBool t29 (pFa 4 t1 H fun t31 H =>
  ldK .none H t31 fun t32 H =>
  pIa 7 t32 t28 H fun t34 H =>
  pO (aNil t34) H fun t39 H =>
  pFa 4 t39 H fun t40 H =>
  ldK .none H t40 fun t41 H =>
  pO (aNil t34) H fun t44 H =>
  pFa 5 t44 H fun t45 H =>
  ldK .none H t45 fun t46 H =>
  pO (aNil t34) H fun t49 H =>
  pFa 6 t49 H fun t50 H =>
  ldK .none H t50 fun t51 H =>
  pC call n_slices_Clone_bool [t41] H fun t42 H =>
  andR (andB (ckV (aLoad .none H t45) t46) (andB (ckV (aLoad .none H t50) t51) true)) (
  pC call n_slices_Clone_code_Instr [t46] H fun t47 H =>
  andR (andB (ckV (aLoad .none H t50) t51) true) (
  pC call n_slices_Clone_uint64 [t51] H fun t52 H =>
  pO (aNil t34) H fun t53 H =>
  pFa 4 t53 H fun t54 H =>
  stK 1 H t54 t42 fun _ H =>
  pO (aNil t34) H fun t55 H =>
  pFa 5 t55 H fun t56 H =>
  stK 1 H t56 t47 fun _ H =>
  pO (aNil t34) H fun t57 H =>
  pFa 6 t57 H fun t58 H =>
  stK 1 H t58 t52 fun _ H =>
  pAdd t28 (.int .i64 (.ofNat 1)) H fun t59 H =>
  (S_vm_clone_1 call n) t1 t2 t27 t59 H))) (S_vm_clone_0 call t1 t2 H) := by kernel_rfl
theorem L_trace_player_lead_0 (call : CallFn) (n : Nat) (t0 t1 : AV) (H : AHeap) : S_trace_player_lead_0 call (n + 1) t0 t1 H = pO (aNil t0) H fun t9 H =>
  pFa 0 t9 H fun t10 H =>
  ldK .none H t10 fun t11 H =>
  pC call n_vm_Machine_Next [t11, t1] H fun t13 H =>
  pExt t13 0 H fun t14 H =>
  pExt t13 1 H fun t15 H =>
  guardA t14 false (pO (aUn .not t15) H fun t19 H =>
  S_trace_player_lead_1 call (S_trace_player_lead_0 call n) t0 t1 t15 t14 t19 H) (S_trace_player_lead_1 call (S_trace_player_lead_0 call n) t0 t1 t15 t14 U H) := by kernel_rfl
theorem L_slices_Index_sched_Way_0 (call : CallFn) (n : Nat) (t0 t3 t7 t8 : AV) (H : AHeap) : S_slices_Index_sched_Way_0 call (n + 1) t0 t3 t7 t8 H = pLss t8 t7 H fun t9 H =>
  onBool t9 (ldK (.some 3) H t3 fun t11 H =>
  pIa 3 t0 t8 H fun t14 H =>
  ldK (.some 3) H t14 fun t15 H =>
  pO (aEq false (.struct [(0, .none, .int), (1, .none, .int), (2, .none, .int)]) t11 t15) H fun t16 H =>
  onBool t16 (some (t8, H)) (pAdd t8 (.int .i64 (.ofNat 1)) H fun t18 H =>
  (S_slices_Index_sched_Way_0 call n) t0 t3 t7 t18 H)) (some ((.int .i64 (.negSucc 0)), H)) := by kernel_rfl
theorem L_sched_Table_Ways_2 (call : CallFn) (n : Nat) (t0 t1 t2 t11 t12 t57 t58 t59 : AV) (H : AHeap) : S_sched_Table_Ways_2 call (n + 1) t0 t1 t2 t11 t12 t57 t58 t59 H = pLss t59 t58 H fun t60 H =>
  onBool t60 (pIa 4 t57 t59 H fun t61 H =>
  ldK (.some 4) H t61 fun t62 H =>
  pNew [(.int .i64 (.ofNat 0)), (.bool false), (.int .i64 (.ofNat 0)), (.bool false)] H fun t14 H =>
  stK 4 H t14 t62 fun _ H =>
  ldK (.some 4) H t14 fun t67 H =>
  pC call n_sched_Table_ways [t0, t1, t2, t67] H fun t68 H =>
  pW (aApp 3 24 H t12 t68) fun t69 H =>
  pAdd t59 (.int .i64 (.ofNat 1)) H fun t70 H =>
  (S_sched_Table_Ways_2 call n) t0 t1 t2 t11 t69 t57 t58 t70 H) (S_sched_Table_Ways_1 call t11 t12 H) := by kernel_rfl
theorem L_verify_Without_5 (call : CallFn) (q1 : AV → AV → AV → AV → AV → AV → AV → AV → AV → AV → AV → AV → AHeap → R) (n : Nat) (t1 t2 t4 t9 t10 t12 t13 t15 t41 t42 t43 t57 t58 t59 : AV) (H : AHeap) : S_verify_Without_5 call q1 (n + 1) t1 t2 t4 t9 t10 t12 t13 t15 t41 t42 t43 t57 t58 t59 H = pLeq t15 (.int .i64 (.ofNat 10)) H fun t73 H =>
  onBool t73 (pC call n_slices_Contains_int [t1, t15] H fun t78 H =>
  pO (aUn .not t78) H fun t79 H =>
  guardA t79 true (pC call n_verify_checker_rule [t12, t15] H fun t83 H =>
  pO (aUn .not t83) H fun t84 H =>
  S_verify_Without_6 call (S_verify_Without_5 call q1 n) t1 t2 t4 t9 t10 t12 t13 t15 t41 t42 t43 t57 t58 t59 t79 t84 H) (S_verify_Without_6 call (S_verify_Without_5 call q1 n) t1 t2 t4 t9 t10 t12 t13 t15 t41 t42 t43 t57 t58 t59 t79 U H)) (S_verify_Without_4 call q1 t1 t2 t4 t9 t10 t12 t41 t42 t43 t57 t58 t59 H) := by kernel_rfl
theorem L_verify_Without_3 (call : CallFn) (q0 : AV → AV → AV → AV → AV → AV → AV → AHeap → R) (n : Nat) (t1 t2 t4 t9 t10 t12 t41 t42 t43 t57 t58 t59 : AV) (H : AHeap) : S_verify_Without_3 call q0 (n + 1) t1 t2 t4 t9 t10 t12 t41 t42 t43 t57 t58 t59 H = pLss t59 t58 H fun t60 H =>
  onBool t60 (pIa 5 t57 t59 H fun t62 H =>
  ldK (.some 5) H t62 fun t63 H =>
  pNew [(.int .i64 (.ofNat 0)), (.int .i64 (.ofNat 0)), (.int .i64 (.ofNat 0)), (.int .i64 (.ofNat 0)), (.int .i64 (.ofNat 0))] H fun t14 H =>
  stK 5 H t14 t63 fun _ H =>
  ldK (.some 5) H t14 fun t67 H =>
  pO (aNil t12) H fun t68 H =>
  pFa 16 t68 H fun t69 H =>
  stK 1 H t69 t59 fun _ H =>
  andR (andB (ckV (aLoad (.some 5) H t14) t67) true) (
  pO (aNil t12) H fun t70 H =>
  pFa 17 t70 H fun t71 H =>
  stK 5 H t71 t67 fun _ H =>
  S_verify_Without_5 call (S_verify_Without_3 call q0 n) 1000000 t1 t2 t4 t9 t10 t12 t59 (.int .i64 (.ofNat 4)) t41 t42 t43 t57 t58 t59 H)) (S_verify_Without_2 call q0 t1 t2 t4 t9 t41 t42 t43 H) := by kernel_rfl
theorem L_verify_Without_1 (call : CallFn) (n : Nat) (t1 t2 t4 t9 t41 t42 t43 : AV) (H : AHeap) : S_verify_Without_1 call (n + 1) t1 t2 t4 t9 t41 t42 t43 H = pLss t43 t42 H fun t44 H =>
  onBool t44 (pIa 7 t41 t43 H fun t46 H =>
  ldK (.some 7) H t46 fun t47 H =>
  pNew [(.int .i64 (.ofNat 0)), (.int .i64 (.ofNat 0)), (.int .i64 (.ofNat 0)), (.int .i64 (.ofNat 0)), .nilsl, .nilsl, .nilsl] H fun t11 H =>
  stK 7 H t11 t47 fun _ H =>
  ldK (.some 6) H t2 fun t48 H =>
  ldK (.some 7) H t11 fun t49 H =>
  ldK (.some 6) H t2 fun t50 H =>
  ldK (.some 7) H t11 fun t51 H =>
  pC call n_live_Maps [t50, t51] H fun t52 H =>
  andR (andB (ckV (aLoad (.some 6) H t2) t48) (andB (ckV (aLoad (.some 7) H t11) t49) true)) (
  pO (someAgg (aFill [.nilsl, .nilsl, .nilsl, .nilsl, .nilsl, (.int .i64 (.ofNat 0)), (.int .i64 (.ofNat 0)), (.int .i64 (.ofNat 0)), (.int .i64 (.ofNat 0)), (.int .i64 (.ofNat 0)), .nilsl, .nilsl, .nilsl, .nilsl, .nilsl, .nilsl, (.int .i64 (.ofNat 0)), (.int .i64 (.ofNat 0)), (.int .i64 (.ofNat 0)), (.int .i64 (.ofNat 0)), (.int .i64 (.ofNat 0)), (.int .i64 (.ofNat 0))] [(0, 6, t48), (6, 7, t49), (13, 1, t52), (15, 1, t9)])) H fun t54 H =>
  pBox t54 H fun t55 H =>
  pFa 5 t11 H fun t56 H =>
  ldK .none H t56 fun t57 H =>
  pO (aLen .sl H t57) H fun t58 H =>
  S_verify_Without_3 call (S_verify_Without_1 call n) 1000000 t1 t2 t4 t9 t43 t55 t41 t42 t43 t57 t58 (.int .i64 (.ofNat 0)) H)) (S_verify_Without_0 call t4 H) := by kernel_rfl
theorem L_verify_Without_8 (call : CallFn) (n : Nat) (t1 t2 t4 t23 t24 t25 : AV) (H : AHeap) : S_verify_Without_8 call (n + 1) t1 t2 t4 t23 t24 t25 H = pLss t25 t24 H fun t26 H =>
  onBool t26 (pIa 7 t23 t25 H fun t28 H =>
  ldK (.some 7) H t28 fun t29 H =>
  pNew [(.int .i64 (.ofNat 0)), (.int .i64 (.ofNat 0)), (.int .i64 (.ofNat 0)), (.int .i64 (.ofNat 0)), .nilsl, .nilsl, .nilsl] H fun t8 H =>
  stK 7 H t8 t29 fun _ H =>
  ldK (.some 7) H t8 fun t30 H =>
  pC call n_verify_whole [t30] H fun t31 H =>
  pO (aUn .not t31) H fun t32 H =>
  onBool t32 (pO (someAgg (aFill [(.int .i64 (.ofNat 0)), (.int .i64 (.ofNat 0)), (.int .i64 (.ofNat 0))] [(0, 1, t25), (1, 1, (.int .i64 (.negSucc 0))), (2, 1, (.int .i64 (.ofNat 3)))])) H fun t34 H =>
  stK 3 H t4 t34 fun _ H =>
  ob (allM (fun o => o) [aLoad (.some 3) H t4, some (.bool false)]) fun vs => some (resV vs, H)) (pAdd t25 (.int .i64 (.ofNat 1)) H fun t35 H =>
  (S_verify_Without_8 call n) t1 t2 t4 t23 t24 t35 H)) (S_verify_Without_7 call t1 t2 t4 H) := by kernel_rfl
theorem L_arena_New_0 (call : CallFn) (n : Nat) (t4 t23 t24 : AV) (H : AHeap) : S_arena_New_0 call (n + 1) t4 t23 t24 H = pLss t24 t23 H fun t25 H =>
  onBool t25 (pO (aNil t4) H fun t28 H =>
  pFa 1 t28 H fun t29 H =>
  ldK .none H t29 fun t30 H =>
  pIa 3 t30 t24 H fun t32 H =>
  pFa 0 t32 H fun t33 H =>
  stK 1 H t33 (.int .i64 (.negSucc 0)) fun _ H =>
  pAdd t24 (.int .i64 (.ofNat 1)) H fun t34 H =>
  (S_arena_New_0 call n) t4 t23 t34 H) (some (.tup [t4, (.int .i64 (.ofNat 0))], H)) := by kernel_rfl
theorem L_slices_DeleteFunc_int_1 (call : CallFn) (n : Nat) (t0 t1 t5 t6 : AV) (H : AHeap) : S_slices_DeleteFunc_int_1 call (n + 1) t0 t1 t5 t6 H = pO (aLen .sl H t0) H fun t18 H =>
  pLss t6 t18 H fun t19 H =>
  onBool t19 (pIa 1 t0 t6 H fun t24 H =>
  ldK .none H t24 fun t25 H =>
  pV call t1 [t25] H fun t28 H =>
  pO (aUn .not t28) H fun t29 H =>
  onBool t29 (pIa 1 t0 t5 H fun t33 H =>
  stK 1 H t33 t25 fun _ H =>
  pAdd t5 (.int .i64 (.ofNat 1)) H fun t35 H =>
  S_slices_DeleteFunc_int_2 call (S_slices_DeleteFunc_int_1 call n) t0 t1 t35 t6 H) (S_slices_DeleteFunc_int_2 call (S_slices_DeleteFunc_int_1 call n) t0 t1 t5 t6 H)) (S_slices_DeleteFunc_int_0 call t0 t5 H) := by kernel_rfl
theorem L_live_Maps_0 (call : CallFn) (n : Nat) (t5 t8 t34 t35 : AV) (H : AHeap) : S_live_Maps_0 call (n + 1) t5 t8 t34 t35 H = pLss t35 t34 H fun t36 H =>
  onBool t36 (pIa 1 t8 t35 H fun t40 H =>
  ldK .none H t40 fun t41 H =>
  pAnd t41 t5 H fun t43 H =>
  pIa 1 t8 t35 H fun t44 H =>
  stK 1 H t44 t43 fun _ H =>
  pAdd t35 (.int .i64 (.ofNat 1)) H fun t45 H =>
  (S_live_Maps_0 call n) t5 t8 t34 t45 H) (some (t8, H)) := by kernel_rfl
theorem L_live_Maps_2 (call : CallFn) (n : Nat) (t2 t3 t5 t16 t17 t18 : AV) (H : AHeap) : S_live_Maps_2 call (n + 1) t2 t3 t5 t16 t17 t18 H = pLss t18 t17 H fun t19 H =>
  onBool t19 (pIa 1 t16 t18 H fun t21 H =>
  ldK .none H t21 fun t22 H =>
  onBool t22 (pConv .u64 t18 H fun t26 H =>
  pO (aBin .shl (.int .u64 (.ofNat 1)) t26) H fun t27 H =>
  pOr t5 t27 H fun t28 H =>
  S_live_Maps_3 call (S_live_Maps_2 call n) t2 t3 t28 t16 t17 t18 H) (S_live_Maps_3 call (S_live_Maps_2 call n) t2 t3 t5 t16 t17 t18 H)) (S_live_Maps_1 call t2 t3 t5 H) := by kernel_rfl
theorem L_slices_IndexFunc_int_0 (call : CallFn) (n : Nat) (t0 t1 t7 t8 : AV) (H : AHeap) : S_slices_IndexFunc_int_0 call (n + 1) t0 t1 t7 t8 H = pLss t8 t7 H fun t9 H =>
  onBool t9 (pIa 1 t0 t8 H fun t14 H =>
  ldK .none H t14 fun t15 H =>
  pV call t1 [t15] H fun t16 H =>
  onBool t16 (some (t8, H)) (pAdd t8 (.int .i64 (.ofNat 1)) H fun t18 H =>
  (S_slices_IndexFunc_int_0 call n) t0 t1 t7 t18 H)) (some ((.int .i64 (.negSucc 0)), H)) := by kernel_rfl
theorem L_live_Sets_2 (call : CallFn) (q0 : AV → AV → AV → AV → AV → AHeap → R) (n : Nat) (t2 t3 t5 t6 t7 t8 : AV) (H : AHeap) : S_live_Sets_2 call q0 (n + 1) t2 t3 t5 t6 t7 t8 H = pGeq t8 (.int .i64 (.ofNat 0)) H fun t22 H =>
  onBool t22 (pFa 5 t3 H fun t25 H =>
  ldK .none H t25 fun t26 H =>
  pIa 5 t26 t8 H fun t28 H =>
  ldK (.some 5) H t28 fun t29 H =>
  pNew [(.int .i64 (.ofNat 0)), (.int .i64 (.ofNat 0)), (.int .i64 (.ofNat 0)), (.int .i64 (.ofNat 0)), (.int .i64 (.ofNat 0))] H fun t9 H =>
  stK 5 H t9 t29 fun _ H =>
  ldK (.some 6) H t2 fun t30 H =>
  ldK (.some 5) H t9 fun t31 H =>
  ldK (.some 5) H t9 fun t37 H =>
  pC call n_live_Reads [t30, t31] H fun t32 H =>
  andR (andB (ckV (aLoad (.some 5) H t9) t37) true) (
  pC call n_live_bitsOf [t32] H fun t33 H =>
  andR (andB (ckV (aLoad (.some 5) H t9) t37) true) (
  pV call t6 [t8] H fun t36 H =>
  andR (andB (ckV (aLoad (.some 5) H t9) t37) true) (
  pC call n_live_Writes [t37] H fun t38 H =>
  pC call n_live_bitsOf [t38] H fun t39 H =>
  pAndN t36 t39 H fun t40 H =>
  pOr t33 t40 H fun t41 H =>
  ldK .none H t5 fun t43 H =>
  pIa 1 t43 t8 H fun t45 H =>
  ldK .none H t45 fun t46 H =>
  pNeq t41 t46 H fun t47 H =>
  onBool t47 (ldK .none H t5 fun t48 H =>
  pIa 1 t48 t8 H fun t51 H =>
  stK 1 H t51 t41 fun _ H =>
  S_live_Sets_3 call (S_live_Sets_2 call q0 n) t2 t3 t5 t6 (.bool true) t8 H) (S_live_Sets_3 call (S_live_Sets_2 call q0 n) t2 t3 t5 t6 t7 t8 H))))) (q0 t2 t3 t5 t6 t7 H) := by kernel_rfl
theorem L_live_Sets_1 (call : CallFn) (n : Nat) (t2 t3 t5 t6 t7 : AV) (H : AHeap) : S_live_Sets_1 call (n + 1) t2 t3 t5 t6 t7 H = onBool t7 (pFa 5 t3 H fun t17 H =>
  ldK .none H t17 fun t18 H =>
  pO (aLen .sl H t18) H fun t19 H =>
  pSub t19 (.int .i64 (.ofNat 1)) H fun t20 H =>
  S_live_Sets_2 call (S_live_Sets_1 call n) 1000000 t2 t3 t5 t6 (.bool false) t20 H) (S_live_Sets_0 call t5 H) := by kernel_rfl
theorem L_slices_Index_int_0 (call : CallFn) (n : Nat) (t0 t1 t7 t8 : AV) (H : AHeap) : S_slices_Index_int_0 call (n + 1) t0 t1 t7 t8 H = pLss t8 t7 H fun t9 H =>
  onBool t9 (pIa 1 t0 t8 H fun t14 H =>
  ldK .none H t14 fun t15 H =>
  pEql t1 t15 H fun t16 H =>
  onBool t16 (some (t8, H)) (pAdd t8 (.int .i64 (.ofNat 1)) H fun t18 H =>
  (S_slices_Index_int_0 call n) t0 t1 t7 t18 H)) (some ((.int .i64 (.negSucc 0)), H)) := by kernel_rfl
theorem L_verify_checker_on_2 (call : CallFn) (n : Nat) (t0 t6 t7 t8 : AV) (H : AHeap) : S_verify_checker_on_2 call (n + 1) t0 t6 t7 t8 H = pLss t8 t7 H fun t9 H =>
  onBool t9 (pIa 1 t6 t8 H fun t10 H =>
  ldK .none H t10 fun t11 H =>
  pLss t11 (.int .i64 (.ofNat 0)) H fun t13 H =>
  guardA t13 false (pO (aNil t0) H fun t17 H =>
  pFa 6 t17 H fun t18 H =>
  pFa 5 t18 H fun t19 H =>
  ldK .none H t19 fun t20 H =>
  pO (aLen .sl H t20) H fun t21 H =>
  pGeq t11 t21 H fun t22 H =>
  S_verify_checker_on_3 call (S_verify_checker_on_2 call n) t0 t6 t7 t8 t13 t22 H) (S_verify_checker_on_3 call (S_verify_checker_on_2 call n) t0 t6 t7 t8 t13 U H)) (S_verify_checker_on_1 call t0 H) := by kernel_rfl
theorem L_verify_checker_back_0 (call : CallFn) (n : Nat) (t0 t6 t7 t8 : AV) (H : AHeap) : S_verify_checker_back_0 call (n + 1) t0 t6 t7 t8 H = pLss t8 t7 H fun t9 H =>
  onBool t9 (pIa 1 t6 t8 H fun t10 H =>
  ldK .none H t10 fun t11 H =>
  pO (aNil t0) H fun t14 H =>
  pFa 16 t14 H fun t15 H =>
  ldK .none H t15 fun t16 H =>
  pLeq t11 t16 H fun t17 H =>
  guardA t17 true (pO (aNil t0) H fun t20 H =>
  pFa 6 t20 H fun t21 H =>
  pFa 5 t21 H fun t22 H =>
  ldK .none H t22 fun t23 H =>
  pIa 5 t23 t11 H fun t25 H =>
  pFa 0 t25 H fun t26 H =>
  ldK .none H t26 fun t27 H =>
  pNeq t27 (.int .i64 (.ofNat 43)) H fun t28 H =>
  S_verify_checker_back_1 call (S_verify_checker_back_0 call n) t0 t6 t7 t8 t17 t28 H) (S_verify_checker_back_1 call (S_verify_checker_back_0 call n) t0 t6 t7 t8 t17 U H)) (some ((.bool true), H)) := by kernel_rfl
theorem L_slices_IndexFunc_head_Shape_0 (call : CallFn) (n : Nat) (t0 t1 t7 t8 : AV) (H : AHeap) : S_slices_IndexFunc_head_Shape_0 call (n + 1) t0 t1 t7 t8 H = pLss t8 t7 H fun t9 H =>
  onBool t9 (pIa 3 t0 t8 H fun t14 H =>
  ldK (.some 3) H t14 fun t15 H =>
  pV call t1 [t15] H fun t16 H =>
  onBool t16 (some (t8, H)) (pAdd t8 (.int .i64 (.ofNat 1)) H fun t18 H =>
  (S_slices_IndexFunc_head_Shape_0 call n) t0 t1 t7 t18 H)) (some ((.int .i64 (.negSucc 0)), H)) := by kernel_rfl
theorem L_slices_IndexFunc_int64_0 (call : CallFn) (n : Nat) (t0 t1 t7 t8 : AV) (H : AHeap) : S_slices_IndexFunc_int64_0 call (n + 1) t0 t1 t7 t8 H = pLss t8 t7 H fun t9 H =>
  onBool t9 (pIa 1 t0 t8 H fun t14 H =>
  ldK .none H t14 fun t15 H =>
  pV call t1 [t15] H fun t16 H =>
  onBool t16 (some (t8, H)) (pAdd t8 (.int .i64 (.ofNat 1)) H fun t18 H =>
  (S_slices_IndexFunc_int64_0 call n) t0 t1 t7 t18 H)) (some ((.int .i64 (.negSucc 0)), H)) := by kernel_rfl
theorem L_live_Sets_c1_0 (call : CallFn) (n : Nat) (t3 t6 t64 t65 t66 : AV) (H : AHeap) : S_live_Sets_c1_0 call (n + 1) t3 t6 t64 t65 t66 H = pLss t66 t65 H fun t67 H =>
  onBool t67 (pIa 1 t64 t66 H fun t68 H =>
  ldK .none H t68 fun t69 H =>
  ldK .none H t3 fun t71 H =>
  pIa 1 t71 t69 H fun t73 H =>
  ldK .none H t73 fun t74 H =>
  pOr t6 t74 H fun t75 H =>
  pAdd t66 (.int .i64 (.ofNat 1)) H fun t76 H =>
  (S_live_Sets_c1_0 call n) t3 t75 t64 t65 t76 H) (some (t6, H)) := by kernel_rfl
theorem L_live_Sets_c1_2 (call : CallFn) (n : Nat) (t1 t3 t6 t23 t24 t25 : AV) (H : AHeap) : S_live_Sets_c1_2 call (n + 1) t1 t3 t6 t23 t24 t25 H = pLss t25 t24 H fun t26 H =>
  onBool t26 (pIa 4 t23 t25 H fun t27 H =>
  ldK (.some 4) H t27 fun t28 H =>
  pNew [(.int .i64 (.ofNat 0)), (.int .i64 (.ofNat 0)), (.int .i64 (.ofNat 0)), (.int .i64 (.ofNat 0))] H fun t9 H =>
  stK 4 H t9 t28 fun _ H =>
  pFa 3 t9 H fun t29 H =>
  ldK .none H t29 fun t30 H =>
  pLss t30 (.int .i64 (.ofNat 0)) H fun t31 H =>
  guardA t31 false (pFa 3 t9 H fun t33 H =>
  ldK .none H t33 fun t34 H =>
  pFa 5 t1 H fun t35 H =>
  ldK .none H t35 fun t36 H =>
  pO (aLen .sl H t36) H fun t37 H =>
  pGeq t34 t37 H fun t38 H =>
  S_live_Sets_c1_4 call (S_live_Sets_c1_2 call n) t1 t3 t6 t9 t23 t24 t25 t31 t38 H) (S_live_Sets_c1_4 call (S_live_Sets_c1_2 call n) t1 t3 t6 t9 t23 t24 t25 t31 U H)) (some (t6, H)) := by kernel_rfl
theorem L_live_bitsOf_0 (call : CallFn) (n : Nat) (t3 t6 t7 t8 : AV) (H : AHeap) : S_live_bitsOf_0 call (n + 1) t3 t6 t7 t8 H = pLss t8 t7 H fun t9 H =>
  onBool t9 (pIa 1 t6 t8 H fun t10 H =>
  ldK .none H t10 fun t11 H =>
  pGeq t11 (.int .i64 (.ofNat 0)) H fun t13 H =>
  guardA t13 true (pLss t11 (.int .i64 (.ofNat 64)) H fun t16 H =>
  S_live_bitsOf_2 call (S_live_bitsOf_0 call n) t3 t11 t6 t7 t8 t13 t16 H) (S_live_bitsOf_2 call (S_live_bitsOf_0 call n) t3 t11 t6 t7 t8 t13 U H)) (some (t3, H)) := by kernel_rfl
theorem L_live_Follows_1 (call : CallFn) (n : Nat) (t4 t7 t49 t50 t51 : AV) (H : AHeap) : S_live_Follows_1 call (n + 1) t4 t7 t49 t50 t51 H = pLss t51 t50 H fun t52 H =>
  onBool t52 (pIa 4 t49 t51 H fun t53 H =>
  ldK (.some 4) H t53 fun t54 H =>
  pNew [(.int .i64 (.ofNat 0)), (.int .i64 (.ofNat 0)), (.int .i64 (.ofNat 0)), (.int .i64 (.ofNat 0))] H fun t10 H =>
  stK 4 H t10 t54 fun _ H =>
  pFa 3 t10 H fun t56 H =>
  ldK .none H t56 fun t57 H =>
  pN (aBsl 1 1 [(.int .i64 (.ofNat 0))] [(0, 1, t57)]) H fun t58 H =>
  pW (aApp 1 8 H t7 t58) fun t59 H =>
  pAdd t51 (.int .i64 (.ofNat 1)) H fun t60 H =>
  (S_live_Follows_1 call n) t4 t59 t49 t50 t60 H) (S_live_Follows_0 call t4 t7 H) := by kernel_rfl
theorem L_verify_checker_targets_0 (call : CallFn) (n : Nat) (t3 t36 t37 t38 : AV) (H : AHeap) : S_verify_checker_targets_0 call (n + 1) t3 t36 t37 t38 H = pLss t38 t37 H fun t39 H =>
  onBool t39 (pIa 4 t36 t38 H fun t40 H =>
  ldK (.some 4) H t40 fun t41 H =>
  pNew [(.int .i64 (.ofNat 0)), (.int .i64 (.ofNat 0)), (.int .i64 (.ofNat 0)), (.int .i64 (.ofNat 0))] H fun t7 H =>
  stK 4 H t7 t41 fun _ H =>
  pFa 3 t7 H fun t43 H =>
  ldK .none H t43 fun t44 H =>
  pN (aBsl 1 1 [(.int .i64 (.ofNat 0))] [(0, 1, t44)]) H fun t45 H =>
  pW (aApp 1 8 H t3 t45) fun t46 H =>
  pAdd t38 (.int .i64 (.ofNat 1)) H fun t47 H =>
  (S_verify_checker_targets_0 call n) t46 t36 t37 t47 H) (some (t3, H)) := by kernel_rfl
theorem L_slices_pdqsortOrdered_int_0 (call : CallFn) (n : Nat) (t0 t1 t2 t3 t8 t9 : AV) (H : AHeap) : S_slices_pdqsortOrdered_int_0 call (n + 1) t0 t1 t2 t3 t8 t9 H = pSub t2 t1 H fun t21 H =>
  pLeq t21 (.int .i64 (.ofNat 12)) H fun t23 H =>
  onBool t23 (pC call n_slices_insertionSortOrdered_int [t0, t1, t2] H fun _ H =>
  some (.tup [], H)) (pEql t3 (.int .i64 (.ofNat 0)) H fun t29 H =>
  onBool t29 (pC call n_slices_heapSortOrdered_int [t0, t1, t2] H fun _ H =>
  some (.tup [], H)) (pO (aUn .not t8) H fun t35 H =>
  onBool t35 (pC call n_slices_breakPatternsOrdered_int [t0, t1, t2] H fun _ H =>
  pSub t3 (.int .i64 (.ofNat 1)) H fun t41 H =>
  S_slices_pdqsortOrdered_int_16 call (S_slices_pdqsortOrdered_int_0 call n) t0 t1 t2 t41 t8 t9 t21 H) (S_slices_pdqsortOrdered_int_16 call (S_slices_pdqsortOrdered_int_0 call n) t0 t1 t2 t3 t8 t9 t21 H))) := by kernel_rfl
theorem L_slices_Compact_int_3 (call : CallFn) (n : Nat) (t0 t3 t4 t5 : AV) (H : AHeap) : S_slices_Compact_int_3 call (n + 1) t0 t3 t4 t5 H = pO (aLen .sl H t4) H fun t31 H =>
  pLss t5 t31 H fun t32 H =>
  onBool t32 (pIa 1 t4 t5 H fun t37 H =>
  ldK .none H t37 fun t38 H =>
  pSub t5 (.int .i64 (.ofNat 1)) H fun t41 H =>
  pIa 1 t4 t41 H fun t42 H =>
  ldK .none H t42 fun t43 H =>
  pNeq t38 t43 H fun t44 H =>
  onBool t44 (pIa 1 t4 t5 H fun t49 H =>
  ldK .none H t49 fun t50 H =>
  pIa 1 t0 t3 H fun t51 H =>
  stK 1 H t51 t50 fun _ H =>
  pAdd t3 (.int .i64 (.ofNat 1)) H fun t53 H =>
  S_slices_Compact_int_4 call (S_slices_Compact_int_3 call n) t0 t53 t4 t5 H) (S_slices_Compact_int_4 call (S_slices_Compact_int_3 call n) t0 t3 t4 t5 H)) (S_slices_Compact_int_2 call t0 t3 H) := by kernel_rfl
theorem L_slices_Compact_int_0 (call : CallFn) (n : Nat) (t0 t3 : AV) (H : AHeap) : S_slices_Compact_int_0 call (n + 1) t0 t3 H = pO (aLen .sl H t0) H fun t12 H =>
  pLss t3 t12 H fun t13 H =>
  onBool t13 (pIa 1 t0 t3 H fun t18 H =>
  ldK .none H t18 fun t19 H =>
  pSub t3 (.int .i64 (.ofNat 1)) H fun t22 H =>
  pIa 1 t0 t22 H fun t23 H =>
  ldK .none H t23 fun t24 H =>
  pEql t19 t24 H fun t25 H =>
  onBool t25 (pO (aSlice 1 H t0 (.some t3) .none .none) H fun t28 H =>
  S_slices_Compact_int_3 call 1000000 t0 t3 t28 (.int .i64 (.ofNat 1)) H) (S_slices_Compact_int_1 call (S_slices_Compact_int_0 call n) t0 t3 H)) (some (t0, H)) := by kernel_rfl
theorem L_slices_insertionSortOrdered_int_2 (call : CallFn) (q0 : AV → AV → AV → AV → AHeap → R) (n : Nat) (t0 t1 t2 t6 t7 : AV) (H : AHeap) : S_slices_insertionSortOrdered_int_2 call q0 (n + 1) t0 t1 t2 t6 t7 H = pGtr t7 t1 H fun t18 H =>
  guardA t18 true (S_slices_insertionSortOrdered_int_12 call q0 (S_slices_insertionSortOrdered_int_2 call q0 n) t0 t1 t2 t6 t7 t18 t0 H) (S_slices_insertionSortOrdered_int_12 call q0 (S_slices_insertionSortOrdered_int_2 call q0 n) t0 t1 t2 t6 t7 t18 U H) := by kernel_rfl
theorem L_slices_insertionSortOrdered_int_0 (call : CallFn) (n : Nat) (t0 t1 t2 t6 : AV) (H : AHeap) : S_slices_insertionSortOrdered_int_0 call (n + 1) t0 t1 t2 t6 H = pLss t6 t2 H fun t12 H =>
  onBool t12 (S_slices_insertionSortOrdered_int_2 call (S_slices_insertionSortOrdered_int_0 call n) 1000000 t0 t1 t2 t6 t6 H) (some (.tup [], H)) := by kernel_rfl
end Go.Proofs.YtdccenbljfanpaaGreatDoor
