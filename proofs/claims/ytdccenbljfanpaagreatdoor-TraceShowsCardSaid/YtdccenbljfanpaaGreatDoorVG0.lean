/- They stand for their bodies: part 0. -/
import Derived.Test.YtdccenbljfanpaaGreatDoorVF0
import Derived.KernelRfl
namespace Go.Proofs.YtdccenbljfanpaaGreatDoor
open Go.Ab
set_option maxRecDepth 100000
theorem S_gantlinelaw26_TraceKnown_ok : Stands Tryz.prog [0] 1000000 n_gantlinelaw26_TraceKnown S_gantlinelaw26_TraceKnown :=
  stands_of (s := S_gantlinelaw26_TraceKnown) 54 [.tmp 0] 0 (fun call _ H => S_gantlinelaw26_TraceKnown_6 call H) (fun call _ H _ h => by obtain ⟨rfl, h⟩ := argA0_eq h; exact ⟨rfl, (show _ = S_gantlinelaw26_TraceKnown_6 call H by kernel_rfl).trans h⟩)
    fun call => (cv (fun _ H => S_gantlinelaw26_TraceKnown_6 call H) (sq (sq (sq (sq (sq se (sq (sq (cv (fun e H => S_gantlinelaw26_TraceKnown_5 call e.x0.x4 e.x0.x5 e.x0.x6 e.x1.x5 e.x1.x7 H) (sq (sq (cv (fun e H => S_gantlinelaw26_TraceKnown_4 call e.x0.x4 e.x0.x5 e.x1.x9 e.x1.x11 H) (sq (sq (cv (fun e H => S_gantlinelaw26_TraceKnown_3 call e.x0.x4 e.x1.x13 e.x1.x15 H) (sq (sq (cv (fun e H => S_gantlinelaw26_TraceKnown_2 call e.x1.x17 e.x2.x1 H) (sq (sq (cv (fun e H => S_gantlinelaw26_TraceKnown_1 call e.x2.x3 e.x2.x6 H) (sq (sq (cv (fun e H => S_gantlinelaw26_TraceKnown_0 call e.x2.x8 e.x2.x12 H) se) se) se)) se) se)) se) se)) se) se)) se) se)) se) se)) se) se) se) se))
theorem S_gantlinelaw26_TraceShows_ok : Stands Tryz.prog [0] 1000000 n_gantlinelaw26_TraceShows S_gantlinelaw26_TraceShows :=
  stands_of (s := S_gantlinelaw26_TraceShows) 73 [.tmp 6] 3 (fun call e H => S_gantlinelaw26_TraceShows_2 call e.x0.x0 e.x0.x1 e.x0.x2 H) (fun call _ H _ h => by obtain ⟨t0, t1, t2, rfl, h⟩ := argA3_eq h; exact ⟨rfl, (show _ = S_gantlinelaw26_TraceShows_2 call t0 t1 t2 H by kernel_rfl).trans h⟩)
    fun call => (cv (fun e H => S_gantlinelaw26_TraceShows_2 call e.x0.x0 e.x0.x1 e.x0.x2 H) (sq (sq (sq (sq (sq (sq (sq (sq (cv (fun e H => S_gantlinelaw26_TraceShows_0 call e.x0.x1 e.x0.x2 e.x0.x7 e.x0.x8 H) se) (sq (bl (lp (fun n e H => S_gantlinelaw26_TraceShows_1 call n e.x0.x0 e.x0.x1 e.x0.x2 e.x0.x7 e.x0.x8 e.x0.x9 e.x0.x10 H) fun _ => cv _ se)) se)) se) se) se) se) se) se) se))
theorem S_gantlinelaw26_awake_ok : Stands Tryz.prog [0] 1000000 n_gantlinelaw26_awake S_gantlinelaw26_awake :=
  stands_of (s := S_gantlinelaw26_awake) 48 [.tmp 0] 0 (fun call _ H => S_gantlinelaw26_awake_5 call H) (fun call _ H _ h => by obtain ⟨rfl, h⟩ := argA0_eq h; exact ⟨rfl, (show _ = S_gantlinelaw26_awake_5 call H by kernel_rfl).trans h⟩)
    fun call => (cv (fun _ H => S_gantlinelaw26_awake_5 call H) (sq (sq (sq (sq se (sq (sq (cv (fun e H => S_gantlinelaw26_awake_4 call e.x0.x1 e.x0.x3 e.x0.x4 e.x1.x4 e.x1.x6 H) (sq (sq (cv (fun e H => S_gantlinelaw26_awake_3 call e.x0.x1 e.x0.x3 e.x1.x8 e.x1.x10 H) (sq (sq (cv (fun e H => S_gantlinelaw26_awake_2 call e.x0.x1 e.x0.x3 e.x1.x12 e.x1.x16 H) (sq (sq (cv (fun e H => S_gantlinelaw26_awake_1 call e.x0.x1 e.x1.x18 e.x2.x1 H) (sq (sq (cv (fun e H => S_gantlinelaw26_awake_0 call e.x2.x3 e.x2.x6 H) se) se) se)) se) se)) se) se)) se) se)) se) se)) se) se) se))
theorem S_trace_Again_ok : Stands Tryz.prog [0] 1000000 n_trace_Again S_trace_Again :=
  stands_of (s := S_trace_Again) 47 [.cell (.some 7) 6, .tmp 7, .tmp 8] 3 (fun call e H => S_trace_Again_3 call e.x0.x0 e.x0.x1 e.x0.x2 H) (fun call _ H _ h => by obtain ⟨t0, t1, t2, rfl, h⟩ := argA3_eq h; exact ⟨rfl, (show _ = S_trace_Again_3 call t0 t1 t2 H by kernel_rfl).trans h⟩)
    fun call => (cv (fun e H => S_trace_Again_3 call e.x0.x0 e.x0.x1 e.x0.x2 H) (sq (sq (sq (sq (sq (sq (cv (fun e H => S_trace_Again_0 call e.x0.x6 e.x0.x9 e.x0.x11 e.x0.x12 H) se) (bl (lp (fun n e H => S_trace_Again_1 call n e.x0.x2 e.x0.x6 e.x0.x9 e.x0.x11 e.x0.x12 H) fun n0 => cv _ (sq se (sq se (sq (sq (cv (fun e H => S_trace_Again_2 call (S_trace_Again_1 call n0) e.x0.x2 e.x0.x6 e.x0.x9 e.x0.x11 e.x0.x12 e.x1.x10 e.x1.x16 H) se) se) se)))))) se) se) se) se) se))
theorem S_gantlinelaw26_prints_ok : Stands Tryz.prog [0] 1000000 n_gantlinelaw26_prints S_gantlinelaw26_prints :=
  stands_of (s := S_gantlinelaw26_prints) 11 [.cell (.some 6) 0] 0 (fun call _ H => S_gantlinelaw26_prints_0 call H) (fun call _ H _ h => by obtain ⟨rfl, h⟩ := argA0_eq h; exact ⟨rfl, (show _ = S_gantlinelaw26_prints_0 call H by kernel_rfl).trans h⟩)
    fun call => (cv (fun _ H => S_gantlinelaw26_prints_0 call H) se)
theorem S_trace_Show_ok : Stands Tryz.prog [0] 1000000 n_trace_Show S_trace_Show :=
  stands_of (s := S_trace_Show) 36 [.tmp 2] 1 (fun call e H => S_trace_Show_2 call e.x0.x0 H) (fun call _ H _ h => by obtain ⟨t0, rfl, h⟩ := argA1_eq h; exact ⟨rfl, (show _ = S_trace_Show_2 call t0 H by kernel_rfl).trans h⟩)
    fun call => (cv (fun e H => S_trace_Show_2 call e.x0.x0 H) (sq (sq (sq (cv (fun e H => S_trace_Show_0 call e.x0.x1 e.x0.x3 H) se) (sq (bl (lp (fun n e H => S_trace_Show_1 call n e.x0.x1 e.x0.x3 e.x0.x7 e.x0.x8 e.x0.x9 H) fun _ => cv _ se)) se)) se) se))
theorem S_trace_Order_ok : Stands Tryz.prog [0] 1000000 n_trace_Order S_trace_Order :=
  stands_of (s := S_trace_Order) 20 [.tmp 2] 1 (fun call e H => S_trace_Order_1 call e.x0.x0 H) (fun call _ H _ h => by obtain ⟨t0, rfl, h⟩ := argA1_eq h; exact ⟨rfl, (show _ = S_trace_Order_1 call t0 H by kernel_rfl).trans h⟩)
    fun call => (cv (fun e H => S_trace_Order_1 call e.x0.x0 H) (sq (sq (sq se (sq (bl (lp (fun n e H => S_trace_Order_0 call n e.x0.x3 e.x0.x7 e.x0.x8 e.x0.x9 H) fun _ => cv _ se)) se)) se) se))
theorem S_gantlineref9_Text_ok : Stands Tryz.prog [0] 1000000 n_gantlineref9_Text S_gantlineref9_Text :=
  stands_of (s := S_gantlineref9_Text) 29 [.tmp 2] 1 (fun call e H => S_gantlineref9_Text_0 call e.x0.x0 H) (fun call _ H _ h => by obtain ⟨t0, rfl, h⟩ := argA1_eq h; exact ⟨rfl, (show _ = S_gantlineref9_Text_0 call t0 H by kernel_rfl).trans h⟩)
    fun call => (cv (fun e H => S_gantlineref9_Text_0 call e.x0.x0 H) se)
theorem S_gantlineref9_Name_ok : Stands Tryz.prog [0] 1000000 n_gantlineref9_Name S_gantlineref9_Name :=
  stands_of (s := S_gantlineref9_Name) 14 [.tmp 2] 1 (fun call e H => S_gantlineref9_Name_1 call e.x0.x0 H) (fun call _ H _ h => by obtain ⟨t0, rfl, h⟩ := argA1_eq h; exact ⟨rfl, (show _ = S_gantlineref9_Name_1 call t0 H by kernel_rfl).trans h⟩)
    fun call => (cv (fun e H => S_gantlineref9_Name_1 call e.x0.x0 H) (sq (sq se (sq se (sq (sq (cv (fun e H => S_gantlineref9_Name_0 call e.x0.x0 e.x0.x5 e.x0.x7 H) se) se) se))) se))
theorem S_run_Run_ok : Stands Tryz.prog [0] 1000000 n_run_Run S_run_Run :=
  stands_of (s := S_run_Run) 39 [.cell (.some 7) 6, .tmp 7] 3 (fun call e H => S_run_Run_2 call e.x0.x0 e.x0.x1 e.x0.x2 H) (fun call _ H _ h => by obtain ⟨t0, t1, t2, rfl, h⟩ := argA3_eq h; exact ⟨rfl, (show _ = S_run_Run_2 call t0 t1 t2 H by kernel_rfl).trans h⟩)
    fun call => (cv (fun e H => S_run_Run_2 call e.x0.x0 e.x0.x1 e.x0.x2 H) (sq (sq (sq (sq (sq (cv (fun e H => S_run_Run_0 call e.x0.x6 e.x0.x8 e.x0.x10 H) se) (sq (bl (lp (fun n e H => S_run_Run_1 call n e.x0.x6 e.x0.x8 e.x0.x10 e.x1.x3 e.x1.x4 e.x1.x5 H) fun _ => cv _ se)) se)) se) se) se) se))
theorem S_gantlineref17_Ints_ok : Stands Tryz.prog [0] 1000000 n_gantlineref17_Ints S_gantlineref17_Ints :=
  stands_of (s := S_gantlineref17_Ints) 26 [.tmp 4] 2 (fun call e H => S_gantlineref17_Ints_1 call e.x0.x0 e.x0.x1 H) (fun call _ H _ h => by obtain ⟨t0, t1, rfl, h⟩ := argA2_eq h; exact ⟨rfl, (show _ = S_gantlineref17_Ints_1 call t0 t1 H by kernel_rfl).trans h⟩)
    fun call => (cv (fun e H => S_gantlineref17_Ints_1 call e.x0.x0 e.x0.x1 H) (sq (sq (sq se (sq (bl (lp (fun n e H => S_gantlineref17_Ints_0 call n e.x0.x0 e.x0.x1 e.x0.x5 H) fun _ => cv _ se)) se)) se) se))
theorem S_gantlineref17_Nums_ok : Stands Tryz.prog [0] 1000000 n_gantlineref17_Nums S_gantlineref17_Nums :=
  stands_of (s := S_gantlineref17_Nums) 26 [.tmp 4] 2 (fun call e H => S_gantlineref17_Nums_1 call e.x0.x0 e.x0.x1 H) (fun call _ H _ h => by obtain ⟨t0, t1, rfl, h⟩ := argA2_eq h; exact ⟨rfl, (show _ = S_gantlineref17_Nums_1 call t0 t1 H by kernel_rfl).trans h⟩)
    fun call => (cv (fun e H => S_gantlineref17_Nums_1 call e.x0.x0 e.x0.x1 H) (sq (sq (sq se (sq (bl (lp (fun n e H => S_gantlineref17_Nums_0 call n e.x0.x0 e.x0.x1 e.x0.x5 H) fun _ => cv _ se)) se)) se) se))
theorem S_vm_New_ok : Stands Tryz.prog [0] 1000000 n_vm_New S_vm_New :=
  stands_of (s := S_vm_New) 44 [.tmp 4, .tmp 5] 2 (fun call e H => S_vm_New_0 call e.x0.x0 e.x0.x1 H) (fun call _ H _ h => by obtain ⟨t0, t1, rfl, h⟩ := argA2_eq h; exact ⟨rfl, (show _ = S_vm_New_0 call t0 t1 H by kernel_rfl).trans h⟩)
    fun call => (cv (fun e H => S_vm_New_0 call e.x0.x0 e.x0.x1 H) se)
theorem S_trace_player_act_ok : Stands Tryz.prog [0] 1000000 n_trace_player_act S_trace_player_act :=
  stands_of (s := S_trace_player_act) 61 [.tmp 4] 2 (fun call e H => S_trace_player_act_4 call e.x0.x0 e.x0.x1 H) (fun call _ H _ h => by obtain ⟨t0, t1, rfl, h⟩ := argA2_eq h; exact ⟨rfl, (show _ = S_trace_player_act_4 call t0 t1 H by kernel_rfl).trans h⟩)
    fun call => (cv (fun e H => S_trace_player_act_4 call e.x0.x0 e.x0.x1 H) (sq (sq (sq (sq (sq se (sq (sq (cv (fun e H => S_trace_player_act_1 call e.x0.x0 e.x0.x5 e.x2.x4 e.x2.x9 H) (sq (sq (cv (fun e H => S_trace_player_act_0 call e.x2.x11 e.x2.x19 H) se) se) se)) se) se)) se) se) (sq se (sq (sq (cv (fun e H => S_trace_player_act_3 call e.x0.x0 e.x0.x3 e.x0.x11 e.x0.x17 H) (sq (sq (cv (fun e H => S_trace_player_act_2 call e.x0.x0 e.x0.x3 e.x0.x19 e.x1.x4 H) se) se) se)) se) se))) se))
theorem S_run_Told_ok : Stands Tryz.prog [0] 1000000 n_run_Told S_run_Told :=
  stands_of (s := S_run_Told) 27 [.cell (.some 7) 4] 2 (fun call e H => S_run_Told_0 call e.x0.x0 e.x0.x1 H) (fun call _ H _ h => by obtain ⟨t0, t1, rfl, h⟩ := argA2_eq h; exact ⟨rfl, (show _ = S_run_Told_0 call t0 t1 H by kernel_rfl).trans h⟩)
    fun call => (cv (fun e H => S_run_Told_0 call e.x0.x0 e.x0.x1 H) se)
theorem S_code_Name_ok : Stands Tryz.prog [0] 1000000 n_code_Name S_code_Name :=
  stands_of (s := S_code_Name) 6 [.tmp 2] 1 (fun call e H => S_code_Name_0 call e.x0.x0 H) (fun call _ H _ h => by obtain ⟨t0, rfl, h⟩ := argA1_eq h; exact ⟨rfl, (show _ = S_code_Name_0 call t0 H by kernel_rfl).trans h⟩)
    fun call => (cv (fun e H => S_code_Name_0 call e.x0.x0 H) se)
theorem S_run_One_ok : Stands Tryz.prog [0] 1000000 n_run_One S_run_One :=
  stands_of (s := S_run_One) 55 [.tmp 4] 2 (fun call e H => S_run_One_1 call e.x0.x0 e.x0.x1 H) (fun call _ H _ h => by obtain ⟨t0, t1, rfl, h⟩ := argA2_eq h; exact ⟨rfl, (show _ = S_run_One_1 call t0 t1 H by kernel_rfl).trans h⟩)
    fun call => (cv (fun e H => S_run_One_1 call e.x0.x0 e.x0.x1 H) (sq (sq (sq (cv (fun e H => S_run_One_0 call e.x0.x0 e.x0.x1 H) se) se) se) se))
theorem S_verify_Module_ok : Stands Tryz.prog [0] 1000000 n_verify_Module S_verify_Module :=
  stands_of (s := S_verify_Module) 11 [.tmp 2] 1 (fun call e H => S_verify_Module_0 call e.x0.x0 H) (fun call _ H _ h => by obtain ⟨t0, rfl, h⟩ := argA1_eq h; exact ⟨rfl, (show _ = S_verify_Module_0 call t0 H by kernel_rfl).trans h⟩)
    fun call => (cv (fun e H => S_verify_Module_0 call e.x0.x0 H) se)
theorem S_heap_New_ok : Stands Tryz.prog [0] 1000000 n_heap_New S_heap_New :=
  stands_of (s := S_heap_New) 46 [.tmp 4, .tmp 5] 2 (fun call e H => S_heap_New_2 call e.x0.x0 e.x0.x1 H) (fun call _ H _ h => by obtain ⟨t0, t1, rfl, h⟩ := argA2_eq h; exact ⟨rfl, (show _ = S_heap_New_2 call t0 t1 H by kernel_rfl).trans h⟩)
    fun call => (cv (fun e H => S_heap_New_2 call e.x0.x0 e.x0.x1 H) (sq (sq (sq (sq (sq (cv (fun e H => S_heap_New_0 call e.x0.x1 e.x0.x8 H) se) (sq (bl (lp (fun n e H => S_heap_New_1 call n e.x0.x1 e.x0.x6 e.x0.x8 e.x1.x4 e.x1.x5 e.x1.x6 H) fun _ => cv _ se)) se)) se) se) se) se))
theorem S_vm_clone_ok : Stands Tryz.prog [0] 1000000 n_vm_clone S_vm_clone :=
  stands_of (s := S_vm_clone) 61 [.cell (.some 6) 2] 1 (fun call e H => S_vm_clone_2 call e.x0.x0 H) (fun call _ H _ h => by obtain ⟨t0, rfl, h⟩ := argA1_eq h; exact ⟨rfl, (show _ = S_vm_clone_2 call t0 H by kernel_rfl).trans h⟩)
    fun call => (cv (fun e H => S_vm_clone_2 call e.x0.x0 H) (sq (sq (sq (sq (cv (fun e H => S_vm_clone_0 call e.x0.x1 e.x0.x2 H) se) (sq (bl (lp (fun n e H => S_vm_clone_1 call n e.x0.x1 e.x0.x2 e.x1.x7 e.x1.x8 H) fun _ => cv _ se)) se)) se) se) se))
theorem S_sched_New_ok : Stands Tryz.prog [0] 1000000 n_sched_New S_sched_New :=
  stands_of (s := S_sched_New) 7 [.tmp 2] 1 (fun call e H => S_sched_New_0 call e.x0.x0 H) (fun call _ H _ h => by obtain ⟨t0, rfl, h⟩ := argA1_eq h; exact ⟨rfl, (show _ = S_sched_New_0 call t0 H by kernel_rfl).trans h⟩)
    fun call => (cv (fun e H => S_sched_New_0 call e.x0.x0 H) se)
theorem S_sched_Table_Add_ok : Stands Tryz.prog [0] 1000000 n_sched_Table_Add S_sched_Table_Add :=
  stands_of (s := S_sched_Table_Add) 49 [.tmp 6, .tmp 7] 3 (fun call e H => S_sched_Table_Add_0 call e.x0.x0 e.x0.x1 e.x0.x2 H) (fun call _ H _ h => by obtain ⟨t0, t1, t2, rfl, h⟩ := argA3_eq h; exact ⟨rfl, (show _ = S_sched_Table_Add_0 call t0 t1 t2 H by kernel_rfl).trans h⟩)
    fun call => (cv (fun e H => S_sched_Table_Add_0 call e.x0.x0 e.x0.x1 e.x0.x2 H) se)
theorem S_vm_Machine_settle_ok : Stands Tryz.prog [0] 1000000 n_vm_Machine_settle S_vm_Machine_settle :=
  stands_of (s := S_vm_Machine_settle) 23 [] 1 (fun call e H => S_vm_Machine_settle_11 call e.x0.x0 H) (fun call _ H _ h => by obtain ⟨t0, rfl, h⟩ := argA1_eq h; exact ⟨rfl, (show _ = S_vm_Machine_settle_11 call t0 H by kernel_rfl).trans h⟩)
    fun call => (cv (fun e H => S_vm_Machine_settle_11 call e.x0.x0 H) (sq se (sq (sq (cv (fun e H => S_vm_Machine_settle_10 call e.x0.x0 e.x0.x7 e.x0.x8 H) (sq (sq (cv (fun e H => S_vm_Machine_settle_9 call e.x0.x0 e.x0.x7 e.x0.x9 H) (sq (sq (cv (fun e H => S_vm_Machine_settle_8 call e.x0.x0 e.x0.x7 e.x0.x10 H) (sq (sq (cv (fun e H => S_vm_Machine_settle_7 call e.x0.x0 e.x0.x7 e.x0.x11 H) (sq (sq (cv (fun e H => S_vm_Machine_settle_6 call e.x0.x0 e.x0.x7 e.x0.x11 e.x0.x12 H) (sq (sq (cv (fun e H => S_vm_Machine_settle_5 call e.x0.x0 e.x0.x7 e.x0.x11 e.x0.x13 H) (sq (sq (cv (fun e H => S_vm_Machine_settle_4 call e.x0.x0 e.x0.x7 e.x0.x11 e.x0.x14 H) (sq (sq (cv (fun e H => S_vm_Machine_settle_3 call e.x0.x0 e.x0.x7 e.x0.x11 e.x0.x15 H) (sq (sq (cv (fun e H => S_vm_Machine_settle_2 call e.x0.x0 e.x0.x7 e.x0.x16 H) (sq (sq (cv (fun e H => S_vm_Machine_settle_1 call e.x0.x0 e.x0.x7 e.x0.x17 H) (sq (sq (cv (fun e H => S_vm_Machine_settle_0 call e.x0.x0 e.x0.x7 e.x0.x18 H) se) se) se)) se) se)) se) se)) se) se)) se) se)) se) se)) se) se)) se) se)) se) se)) se) se)) se) se)))
theorem S_trace_player_lead_ok : Stands Tryz.prog [0] 1000000 n_trace_player_lead S_trace_player_lead :=
  stands_of (s := S_trace_player_lead) 26 [.tmp 4] 2 (fun call e H => S_trace_player_lead_0 call 1000000 e.x0.x0 e.x0.x1 H) (fun call _ H _ h => by obtain ⟨t0, t1, rfl, h⟩ := argA2_eq h; exact ⟨rfl, (show _ = S_trace_player_lead_0 call 1000000 t0 t1 H by kernel_rfl).trans h⟩)
    fun call => (cv (fun e H => S_trace_player_lead_0 call 1000000 e.x0.x0 e.x0.x1 H) (sq (bl (lp (fun n e H => S_trace_player_lead_0 call n e.x0.x0 e.x0.x1 H) fun n0 => cv _ (bl (sq (sq se (sq se (sq (sq (cv (fun e H => S_trace_player_lead_1 call (S_trace_player_lead_0 call n0) e.x0.x0 e.x0.x1 e.x0.x6 e.x0.x17 e.x0.x19 H) se) se) se))) se)))) se))
theorem S_vm_Machine_Acts_ok : Stands Tryz.prog [0] 1000000 n_vm_Machine_Acts S_vm_Machine_Acts :=
  stands_of (s := S_vm_Machine_Acts) 8 [.tmp 2] 1 (fun call e H => S_vm_Machine_Acts_0 call e.x0.x0 H) (fun call _ H _ h => by obtain ⟨t0, rfl, h⟩ := argA1_eq h; exact ⟨rfl, (show _ = S_vm_Machine_Acts_0 call t0 H by kernel_rfl).trans h⟩)
    fun call => (cv (fun e H => S_vm_Machine_Acts_0 call e.x0.x0 H) se)
theorem S_slices_Index_sched_Way_ok : Stands Tryz.prog [0] 1000000 n_slices_Index_sched_Way S_slices_Index_sched_Way :=
  stands_of (s := S_slices_Index_sched_Way) 19 [.tmp 4] 2 (fun call e H => S_slices_Index_sched_Way_1 call e.x0.x0 e.x0.x1 H) (fun call _ H _ h => by obtain ⟨t0, t1, rfl, h⟩ := argA2_eq h; exact ⟨rfl, (show _ = S_slices_Index_sched_Way_1 call t0 t1 H by kernel_rfl).trans h⟩)
    fun call => (cv (fun e H => S_slices_Index_sched_Way_1 call e.x0.x0 e.x0.x1 H) (sq (sq se (sq (bl (lp (fun n e H => S_slices_Index_sched_Way_0 call n e.x0.x0 e.x0.x3 e.x0.x7 e.x0.x8 H) fun _ => cv _ se)) se)) se))
theorem S_vm_Machine_WaysOf_ok : Stands Tryz.prog [0] 1000000 n_vm_Machine_WaysOf S_vm_Machine_WaysOf :=
  stands_of (s := S_vm_Machine_WaysOf) 20 [.tmp 4] 2 (fun call e H => S_vm_Machine_WaysOf_0 call e.x0.x0 e.x0.x1 H) (fun call _ H _ h => by obtain ⟨t0, t1, rfl, h⟩ := argA2_eq h; exact ⟨rfl, (show _ = S_vm_Machine_WaysOf_0 call t0 t1 H by kernel_rfl).trans h⟩)
    fun call => (cv (fun e H => S_vm_Machine_WaysOf_0 call e.x0.x0 e.x0.x1 H) se)
theorem S_trace_player_do_ok : Stands Tryz.prog [0] 1000000 n_trace_player_do S_trace_player_do :=
  stands_of (s := S_trace_player_do) 29 [.tmp 6] 3 (fun call e H => S_trace_player_do_1 call e.x0.x0 e.x0.x1 e.x0.x2 H) (fun call _ H _ h => by obtain ⟨t0, t1, t2, rfl, h⟩ := argA3_eq h; exact ⟨rfl, (show _ = S_trace_player_do_1 call t0 t1 t2 H by kernel_rfl).trans h⟩)
    fun call => (cv (fun e H => S_trace_player_do_1 call e.x0.x0 e.x0.x1 e.x0.x2 H) (sq (sq se (sq se (sq (sq (cv (fun e H => S_trace_player_do_0 call e.x0.x0 e.x0.x12 e.x1.x0 H) se) se) se))) se))
theorem S_vm_Machine_End_ok : Stands Tryz.prog [0] 1000000 n_vm_Machine_End S_vm_Machine_End :=
  stands_of (s := S_vm_Machine_End) 12 [.tmp 2, .tmp 3] 1 (fun call e H => S_vm_Machine_End_0 call e.x0.x0 H) (fun call _ H _ h => by obtain ⟨t0, rfl, h⟩ := argA1_eq h; exact ⟨rfl, (show _ = S_vm_Machine_End_0 call t0 H by kernel_rfl).trans h⟩)
    fun call => (cv (fun e H => S_vm_Machine_End_0 call e.x0.x0 H) se)
theorem S_vm_Machine_Out_ok : Stands Tryz.prog [0] 1000000 n_vm_Machine_Out S_vm_Machine_Out :=
  stands_of (s := S_vm_Machine_Out) 8 [.tmp 2] 1 (fun call e H => S_vm_Machine_Out_0 call e.x0.x0 H) (fun call _ H _ h => by obtain ⟨t0, rfl, h⟩ := argA1_eq h; exact ⟨rfl, (show _ = S_vm_Machine_Out_0 call t0 H by kernel_rfl).trans h⟩)
    fun call => (cv (fun e H => S_vm_Machine_Out_0 call e.x0.x0 H) se)
theorem S_vm_Machine_Heap_ok : Stands Tryz.prog [0] 1000000 n_vm_Machine_Heap S_vm_Machine_Heap :=
  stands_of (s := S_vm_Machine_Heap) 7 [.tmp 2] 1 (fun call e H => S_vm_Machine_Heap_0 call e.x0.x0 H) (fun call _ H _ h => by obtain ⟨t0, rfl, h⟩ := argA1_eq h; exact ⟨rfl, (show _ = S_vm_Machine_Heap_0 call t0 H by kernel_rfl).trans h⟩)
    fun call => (cv (fun e H => S_vm_Machine_Heap_0 call e.x0.x0 H) se)
theorem S_heap_Heap_Cycle_ok : Stands Tryz.prog [0] 1000000 n_heap_Heap_Cycle S_heap_Heap_Cycle :=
  stands_of (s := S_heap_Heap_Cycle) 7 [.tmp 2] 1 (fun call e H => S_heap_Heap_Cycle_0 call e.x0.x0 H) (fun call _ H _ h => by obtain ⟨t0, rfl, h⟩ := argA1_eq h; exact ⟨rfl, (show _ = S_heap_Heap_Cycle_0 call t0 H by kernel_rfl).trans h⟩)
    fun call => (cv (fun e H => S_heap_Heap_Cycle_0 call e.x0.x0 H) se)
theorem S_cycle_Cycle_Done_ok : Stands Tryz.prog [0] 1000000 n_cycle_Cycle_Done S_cycle_Cycle_Done :=
  stands_of (s := S_cycle_Cycle_Done) 7 [.tmp 2] 1 (fun call e H => S_cycle_Cycle_Done_0 call e.x0.x0 H) (fun call _ H _ h => by obtain ⟨t0, rfl, h⟩ := argA1_eq h; exact ⟨rfl, (show _ = S_cycle_Cycle_Done_0 call t0 H by kernel_rfl).trans h⟩)
    fun call => (cv (fun e H => S_cycle_Cycle_Done_0 call e.x0.x0 H) se)
theorem S_heap_Heap_Forced_ok : Stands Tryz.prog [0] 1000000 n_heap_Heap_Forced S_heap_Heap_Forced :=
  stands_of (s := S_heap_Heap_Forced) 7 [.tmp 2] 1 (fun call e H => S_heap_Heap_Forced_0 call e.x0.x0 H) (fun call _ H _ h => by obtain ⟨t0, rfl, h⟩ := argA1_eq h; exact ⟨rfl, (show _ = S_heap_Heap_Forced_0 call t0 H by kernel_rfl).trans h⟩)
    fun call => (cv (fun e H => S_heap_Heap_Forced_0 call e.x0.x0 H) se)
theorem S_internal_strconv_Itoa_ok : Stands Tryz.prog [0] 1000000 n_internal_strconv_Itoa S_internal_strconv_Itoa :=
  stands_of (s := S_internal_strconv_Itoa) 5 [.tmp 2] 1 (fun call e H => S_internal_strconv_Itoa_0 call e.x0.x0 H) (fun call _ H _ h => by obtain ⟨t0, rfl, h⟩ := argA1_eq h; exact ⟨rfl, (show _ = S_internal_strconv_Itoa_0 call t0 H by kernel_rfl).trans h⟩)
    fun call => (cv (fun e H => S_internal_strconv_Itoa_0 call e.x0.x0 H) se)
theorem S_code_find_ok : Stands Tryz.prog [0] 1000000 n_code_find S_code_find :=
  stands_of (s := S_code_find) 18 [.cell (.some 2) 2] 1 (fun call e H => S_code_find_1 call e.x0.x0 H) (fun call _ H _ h => by obtain ⟨t0, rfl, h⟩ := argA1_eq h; exact ⟨rfl, (show _ = S_code_find_1 call t0 H by kernel_rfl).trans h⟩)
    fun call => (cv (fun e H => S_code_find_1 call e.x0.x0 H) (sq (sq (sq se (sq se (sq (sq (cv (fun e H => S_code_find_0 call e.x0.x0 e.x0.x2 e.x0.x3 e.x0.x7 e.x0.x11 H) se) se) se))) se) se))
theorem S_vm_Machine_Enabled_ok : Stands Tryz.prog [0] 1000000 n_vm_Machine_Enabled S_vm_Machine_Enabled :=
  stands_of (s := S_vm_Machine_Enabled) 17 [.tmp 2] 1 (fun call e H => S_vm_Machine_Enabled_0 call e.x0.x0 H) (fun call _ H _ h => by obtain ⟨t0, rfl, h⟩ := argA1_eq h; exact ⟨rfl, (show _ = S_vm_Machine_Enabled_0 call t0 H by kernel_rfl).trans h⟩)
    fun call => (cv (fun e H => S_vm_Machine_Enabled_0 call e.x0.x0 H) se)
theorem S_vm_Machine_Do_ok : Stands Tryz.prog [0] 1000000 n_vm_Machine_Do S_vm_Machine_Do :=
  stands_of (s := S_vm_Machine_Do) 112 [.tmp 6] 3 (fun call e H => S_vm_Machine_Do_4 call e.x0.x0 e.x0.x1 e.x0.x2 H) (fun call _ H _ h => by obtain ⟨t0, t1, t2, rfl, h⟩ := argA3_eq h; exact ⟨rfl, (show _ = S_vm_Machine_Do_4 call t0 t1 t2 H by kernel_rfl).trans h⟩)
    fun call => (cv (fun e H => S_vm_Machine_Do_4 call e.x0.x0 e.x0.x1 e.x0.x2 H) (sq (sq (sq (sq (sq (sq (sq (sq (sq (sq (cv (fun e H => S_vm_Machine_Do_0 call e.x0.x0 H) se) (sq se (sq (sq (cv (fun e H => S_vm_Machine_Do_2 call e.x0.x0 e.x0.x1 e.x0.x2 e.x0.x7 e.x0.x9 e.x0.x11 e.x3.x15 e.x4.x0 H) (sq (sq (cv (fun e H => S_vm_Machine_Do_1 call e.x0.x0 e.x0.x1 e.x0.x2 e.x0.x7 e.x0.x9 e.x0.x11 e.x4.x2 e.x4.x7 H) se) se) se)) se) se))) se) se) se) se) se) se) (sq se (sq (sq (cv (fun e H => S_vm_Machine_Do_3 call e.x0.x0 e.x0.x1 e.x0.x2 e.x0.x7 e.x1.x0 e.x1.x4 H) se) se) se))) se) se))
theorem S_vm_Machine_Ways_ok : Stands Tryz.prog [0] 1000000 n_vm_Machine_Ways S_vm_Machine_Ways :=
  stands_of (s := S_vm_Machine_Ways) 9 [.tmp 4] 2 (fun call e H => S_vm_Machine_Ways_0 call e.x0.x0 e.x0.x1 H) (fun call _ H _ h => by obtain ⟨t0, t1, rfl, h⟩ := argA2_eq h; exact ⟨rfl, (show _ = S_vm_Machine_Ways_0 call t0 t1 H by kernel_rfl).trans h⟩)
    fun call => (cv (fun e H => S_vm_Machine_Ways_0 call e.x0.x0 e.x0.x1 H) se)
theorem S_verify_Check_ok : Stands Tryz.prog [0] 1000000 n_verify_Check S_verify_Check :=
  stands_of (s := S_verify_Check) 8 [.cell (.some 3) 2, .tmp 3] 1 (fun call e H => S_verify_Check_0 call e.x0.x0 H) (fun call _ H _ h => by obtain ⟨t0, rfl, h⟩ := argA1_eq h; exact ⟨rfl, (show _ = S_verify_Check_0 call t0 H by kernel_rfl).trans h⟩)
    fun call => (cv (fun e H => S_verify_Check_0 call e.x0.x0 H) se)
theorem S_cycle_New_ok : Stands Tryz.prog [0] 1000000 n_cycle_New S_cycle_New :=
  stands_of (s := S_cycle_New) 26 [.tmp 2, .tmp 3] 1 (fun call e H => S_cycle_New_0 call e.x0.x0 H) (fun call _ H _ h => by obtain ⟨t0, rfl, h⟩ := argA1_eq h; exact ⟨rfl, (show _ = S_cycle_New_0 call t0 H by kernel_rfl).trans h⟩)
    fun call => (cv (fun e H => S_cycle_New_0 call e.x0.x0 H) se)
theorem S_slices_Clone_head_Shape_ok : Stands Tryz.prog [0] 1000000 n_slices_Clone_head_Shape S_slices_Clone_head_Shape :=
  stands_of (s := S_slices_Clone_head_Shape) 8 [.tmp 2] 1 (fun call e H => S_slices_Clone_head_Shape_0 call e.x0.x0 H) (fun call _ H _ h => by obtain ⟨t0, rfl, h⟩ := argA1_eq h; exact ⟨rfl, (show _ = S_slices_Clone_head_Shape_0 call t0 H by kernel_rfl).trans h⟩)
    fun call => (cv (fun e H => S_slices_Clone_head_Shape_0 call e.x0.x0 H) se)
theorem S_slices_Clone_bool_ok : Stands Tryz.prog [0] 1000000 n_slices_Clone_bool S_slices_Clone_bool :=
  stands_of (s := S_slices_Clone_bool) 8 [.tmp 2] 1 (fun call e H => S_slices_Clone_bool_0 call e.x0.x0 H) (fun call _ H _ h => by obtain ⟨t0, rfl, h⟩ := argA1_eq h; exact ⟨rfl, (show _ = S_slices_Clone_bool_0 call t0 H by kernel_rfl).trans h⟩)
    fun call => (cv (fun e H => S_slices_Clone_bool_0 call e.x0.x0 H) se)
theorem S_slices_Clone_int64_ok : Stands Tryz.prog [0] 1000000 n_slices_Clone_int64 S_slices_Clone_int64 :=
  stands_of (s := S_slices_Clone_int64) 8 [.tmp 2] 1 (fun call e H => S_slices_Clone_int64_0 call e.x0.x0 H) (fun call _ H _ h => by obtain ⟨t0, rfl, h⟩ := argA1_eq h; exact ⟨rfl, (show _ = S_slices_Clone_int64_0 call t0 H by kernel_rfl).trans h⟩)
    fun call => (cv (fun e H => S_slices_Clone_int64_0 call e.x0.x0 H) se)
theorem S_slices_Clone_code_Case_ok : Stands Tryz.prog [0] 1000000 n_slices_Clone_code_Case S_slices_Clone_code_Case :=
  stands_of (s := S_slices_Clone_code_Case) 8 [.tmp 2] 1 (fun call e H => S_slices_Clone_code_Case_0 call e.x0.x0 H) (fun call _ H _ h => by obtain ⟨t0, rfl, h⟩ := argA1_eq h; exact ⟨rfl, (show _ = S_slices_Clone_code_Case_0 call t0 H by kernel_rfl).trans h⟩)
    fun call => (cv (fun e H => S_slices_Clone_code_Case_0 call e.x0.x0 H) se)
theorem S_slices_Clone_code_Func_ok : Stands Tryz.prog [0] 1000000 n_slices_Clone_code_Func S_slices_Clone_code_Func :=
  stands_of (s := S_slices_Clone_code_Func) 8 [.tmp 2] 1 (fun call e H => S_slices_Clone_code_Func_0 call e.x0.x0 H) (fun call _ H _ h => by obtain ⟨t0, rfl, h⟩ := argA1_eq h; exact ⟨rfl, (show _ = S_slices_Clone_code_Func_0 call t0 H by kernel_rfl).trans h⟩)
    fun call => (cv (fun e H => S_slices_Clone_code_Func_0 call e.x0.x0 H) se)
theorem S_slices_Clone_code_Instr_ok : Stands Tryz.prog [0] 1000000 n_slices_Clone_code_Instr S_slices_Clone_code_Instr :=
  stands_of (s := S_slices_Clone_code_Instr) 8 [.tmp 2] 1 (fun call e H => S_slices_Clone_code_Instr_0 call e.x0.x0 H) (fun call _ H _ h => by obtain ⟨t0, rfl, h⟩ := argA1_eq h; exact ⟨rfl, (show _ = S_slices_Clone_code_Instr_0 call t0 H by kernel_rfl).trans h⟩)
    fun call => (cv (fun e H => S_slices_Clone_code_Instr_0 call e.x0.x0 H) se)
theorem S_slices_Clone_uint64_ok : Stands Tryz.prog [0] 1000000 n_slices_Clone_uint64 S_slices_Clone_uint64 :=
  stands_of (s := S_slices_Clone_uint64) 8 [.tmp 2] 1 (fun call e H => S_slices_Clone_uint64_0 call e.x0.x0 H) (fun call _ H _ h => by obtain ⟨t0, rfl, h⟩ := argA1_eq h; exact ⟨rfl, (show _ = S_slices_Clone_uint64_0 call t0 H by kernel_rfl).trans h⟩)
    fun call => (cv (fun e H => S_slices_Clone_uint64_0 call e.x0.x0 H) se)
theorem S_frame_New_ok : Stands Tryz.prog [0] 1000000 n_frame_New S_frame_New :=
  stands_of (s := S_frame_New) 24 [.tmp 6, .tmp 7] 3 (fun call e H => S_frame_New_0 call e.x0.x0 e.x0.x1 e.x0.x2 H) (fun call _ H _ h => by obtain ⟨t0, t1, t2, rfl, h⟩ := argA3_eq h; exact ⟨rfl, (show _ = S_frame_New_0 call t0 t1 t2 H by kernel_rfl).trans h⟩)
    fun call => (cv (fun e H => S_frame_New_0 call e.x0.x0 e.x0.x1 e.x0.x2 H) se)
theorem S_sched_Table_Enabled_ok : Stands Tryz.prog [0] 1000000 n_sched_Table_Enabled S_sched_Table_Enabled :=
  stands_of (s := S_sched_Table_Enabled) 9 [.tmp 4] 2 (fun call e H => S_sched_Table_Enabled_0 call e.x0.x0 e.x0.x1 H) (fun call _ H _ h => by obtain ⟨t0, t1, rfl, h⟩ := argA2_eq h; exact ⟨rfl, (show _ = S_sched_Table_Enabled_0 call t0 t1 H by kernel_rfl).trans h⟩)
    fun call => (cv (fun e H => S_sched_Table_Enabled_0 call e.x0.x0 e.x0.x1 H) se)
theorem S_vm_Machine_Next_ok : Stands Tryz.prog [0] 1000000 n_vm_Machine_Next S_vm_Machine_Next :=
  stands_of (s := S_vm_Machine_Next) 34 [.tmp 4, .tmp 5] 2 (fun call e H => S_vm_Machine_Next_5 call e.x0.x0 e.x0.x1 H) (fun call _ H _ h => by obtain ⟨t0, t1, rfl, h⟩ := argA2_eq h; exact ⟨rfl, (show _ = S_vm_Machine_Next_5 call t0 t1 H by kernel_rfl).trans h⟩)
    fun call => (cv (fun e H => S_vm_Machine_Next_5 call e.x0.x0 e.x0.x1 H) se)
theorem S_slices_Clone_vm_Act_ok : Stands Tryz.prog [0] 1000000 n_slices_Clone_vm_Act S_slices_Clone_vm_Act :=
  stands_of (s := S_slices_Clone_vm_Act) 8 [.tmp 2] 1 (fun call e H => S_slices_Clone_vm_Act_0 call e.x0.x0 H) (fun call _ H _ h => by obtain ⟨t0, rfl, h⟩ := argA1_eq h; exact ⟨rfl, (show _ = S_slices_Clone_vm_Act_0 call t0 H by kernel_rfl).trans h⟩)
    fun call => (cv (fun e H => S_slices_Clone_vm_Act_0 call e.x0.x0 H) se)
theorem S_sched_Table_Ways_ok : Stands Tryz.prog [0] 1000000 n_sched_Table_Ways S_sched_Table_Ways :=
  stands_of (s := S_sched_Table_Ways) 82 [.tmp 6] 3 (fun call e H => S_sched_Table_Ways_5 call e.x0.x0 e.x0.x1 e.x0.x2 H) (fun call _ H _ h => by obtain ⟨t0, t1, t2, rfl, h⟩ := argA3_eq h; exact ⟨rfl, (show _ = S_sched_Table_Ways_5 call t0 t1 t2 H by kernel_rfl).trans h⟩)
    fun call => (cv (fun e H => S_sched_Table_Ways_5 call e.x0.x0 e.x0.x1 e.x0.x2 H) (sq (sq (sq (sq (sq (sq (sq (sq (sq (cv (fun e H => S_sched_Table_Ways_1 call e.x0.x11 e.x0.x12 H) (sq se (sq se (sq (sq (cv (fun e H => S_sched_Table_Ways_0 call e.x0.x11 e.x0.x12 e.x3.x14 e.x3.x16 H) se) se) se)))) (sq (bl (lp (fun n e H => S_sched_Table_Ways_2 call n e.x0.x0 e.x0.x1 e.x0.x2 e.x0.x11 e.x0.x12 e.x2.x17 e.x2.x18 e.x2.x19 H) fun _ => cv _ se)) se)) se) se) (sq se (sq (sq (cv (fun e H => S_sched_Table_Ways_4 call e.x0.x0 e.x0.x1 e.x0.x2 e.x0.x7 e.x0.x8 e.x1.x17 e.x2.x0 H) (sq (sq (cv (fun e H => S_sched_Table_Ways_3 call e.x0.x0 e.x0.x1 e.x0.x2 e.x0.x7 e.x0.x8 e.x2.x2 e.x2.x5 H) se) se) se)) se) se))) se) se) se) se) se))
theorem S_internal_strconv_FormatInt_ok : Stands Tryz.prog [0] 1000000 n_internal_strconv_FormatInt S_internal_strconv_FormatInt :=
  stands_of (s := S_internal_strconv_FormatInt) 54 [.tmp 4] 2 (fun call e H => S_internal_strconv_FormatInt_2 call e.x0.x0 e.x0.x1 H) (fun call _ H _ h => by obtain ⟨t0, t1, rfl, h⟩ := argA2_eq h; exact ⟨rfl, (show _ = S_internal_strconv_FormatInt_2 call t0 t1 H by kernel_rfl).trans h⟩)
    fun call => (cv (fun e H => S_internal_strconv_FormatInt_2 call e.x0.x0 e.x0.x1 H) (sq (sq se (sq (cn (sq (sq (sq (sq (cv (fun e H => S_internal_strconv_FormatInt_0 call e.x0.x0 e.x0.x5 e.x0.x6 H) se) se) se) se) (sq se (sq (sq (cv (fun e H => S_internal_strconv_FormatInt_1 call e.x0.x0 e.x0.x14 e.x0.x16 H) se) se) se))) se) se)) se))
theorem S_sched_Table_Stack_ok : Stands Tryz.prog [0] 1000000 n_sched_Table_Stack S_sched_Table_Stack :=
  stands_of (s := S_sched_Table_Stack) 11 [.tmp 4] 2 (fun call e H => S_sched_Table_Stack_0 call e.x0.x0 e.x0.x1 H) (fun call _ H _ h => by obtain ⟨t0, t1, rfl, h⟩ := argA2_eq h; exact ⟨rfl, (show _ = S_sched_Table_Stack_0 call t0 t1 H by kernel_rfl).trans h⟩)
    fun call => (cv (fun e H => S_sched_Table_Stack_0 call e.x0.x0 e.x0.x1 H) se)
theorem S_frame_Stack_At_ok : Stands Tryz.prog [0] 1000000 n_frame_Stack_At S_frame_Stack_At :=
  stands_of (s := S_frame_Stack_At) 68 [.cell (.some 5) 4, .tmp 5] 2 (fun call e H => S_frame_Stack_At_33 call e.x0.x0 e.x0.x1 H) (fun call _ H _ h => by obtain ⟨t0, t1, rfl, h⟩ := argA2_eq h; exact ⟨rfl, (show _ = S_frame_Stack_At_33 call t0 t1 H by kernel_rfl).trans h⟩)
    fun call => (cv (fun e H => S_frame_Stack_At_33 call e.x0.x0 e.x0.x1 H) (sq (sq (sq se (sq se (sq (sq (cv (fun e H => S_frame_Stack_At_32 call e.x0.x3 e.x0.x4 e.x0.x6 e.x0.x11 e.x0.x12 H) (sq (sq (cv (fun e H => S_frame_Stack_At_31 call e.x0.x3 e.x0.x4 e.x0.x6 e.x0.x11 e.x0.x13 H) (sq (sq (cv (fun e H => S_frame_Stack_At_30 call e.x0.x3 e.x0.x4 e.x0.x6 e.x0.x11 e.x0.x14 H) (sq (sq (cv (fun e H => S_frame_Stack_At_29 call e.x0.x3 e.x0.x4 e.x0.x6 e.x0.x11 e.x0.x15 H) (sq (sq (cv (fun e H => S_frame_Stack_At_28 call e.x0.x3 e.x0.x4 e.x0.x6 e.x0.x11 e.x0.x16 H) (sq (sq (cv (fun e H => S_frame_Stack_At_27 call e.x0.x3 e.x0.x4 e.x0.x6 e.x0.x18 e.x0.x19 H) (sq (sq (cv (fun e H => S_frame_Stack_At_26 call e.x0.x3 e.x0.x4 e.x0.x6 e.x0.x18 e.x1.x0 H) (sq (sq (cv (fun e H => S_frame_Stack_At_25 call e.x0.x3 e.x0.x4 e.x0.x6 e.x0.x18 e.x1.x1 H) (sq (sq (cv (fun e H => S_frame_Stack_At_24 call e.x0.x3 e.x0.x4 e.x0.x6 e.x0.x18 e.x1.x2 H) (sq (sq (cv (fun e H => S_frame_Stack_At_23 call e.x0.x3 e.x0.x4 e.x0.x6 e.x0.x18 e.x1.x2 e.x1.x3 H) (sq (sq (cv (fun e H => S_frame_Stack_At_22 call e.x0.x3 e.x0.x4 e.x0.x6 e.x0.x18 e.x1.x2 e.x1.x4 H) (sq (sq (cv (fun e H => S_frame_Stack_At_21 call e.x0.x3 e.x0.x4 e.x0.x6 e.x0.x18 e.x1.x2 e.x1.x5 H) (sq (sq (cv (fun e H => S_frame_Stack_At_20 call e.x0.x3 e.x0.x4 e.x0.x6 e.x0.x18 e.x1.x6 H) (sq (sq (cv (fun e H => S_frame_Stack_At_19 call e.x0.x3 e.x0.x4 e.x0.x6 e.x1.x8 e.x1.x9 H) (sq (sq (cv (fun e H => S_frame_Stack_At_18 call e.x0.x3 e.x0.x4 e.x0.x6 e.x1.x8 e.x1.x10 H) (sq (sq (cv (fun e H => S_frame_Stack_At_17 call e.x0.x3 e.x0.x4 e.x0.x6 e.x1.x8 e.x1.x11 H) (sq (sq (cv (fun e H => S_frame_Stack_At_16 call e.x0.x3 e.x0.x4 e.x0.x6 e.x1.x8 e.x1.x12 H) (sq (sq (cv (fun e H => S_frame_Stack_At_15 call e.x0.x3 e.x0.x4 e.x0.x6 e.x1.x8 e.x1.x13 H) (sq (sq (cv (fun e H => S_frame_Stack_At_14 call e.x0.x3 e.x0.x4 e.x0.x6 e.x1.x15 e.x1.x16 H) (sq (sq (cv (fun e H => S_frame_Stack_At_13 call e.x0.x3 e.x0.x4 e.x0.x6 e.x1.x15 e.x1.x17 H) (sq (sq (cv (fun e H => S_frame_Stack_At_12 call e.x0.x3 e.x0.x4 e.x0.x6 e.x1.x15 e.x1.x18 H) (sq (sq (cv (fun e H => S_frame_Stack_At_11 call e.x0.x3 e.x0.x4 e.x0.x6 e.x1.x15 e.x1.x19 H) (sq (sq (cv (fun e H => S_frame_Stack_At_10 call e.x0.x3 e.x0.x4 e.x0.x6 e.x1.x15 e.x1.x19 e.x2.x0 H) (sq (sq (cv (fun e H => S_frame_Stack_At_9 call e.x0.x3 e.x0.x4 e.x0.x6 e.x1.x15 e.x1.x19 e.x2.x1 H) (sq (sq (cv (fun e H => S_frame_Stack_At_8 call e.x0.x3 e.x0.x4 e.x0.x6 e.x1.x15 e.x1.x19 e.x2.x1 e.x2.x2 H) (sq (sq (cv (fun e H => S_frame_Stack_At_7 call e.x0.x3 e.x0.x4 e.x0.x6 e.x1.x15 e.x1.x19 e.x2.x1 e.x2.x3 H) (sq (sq (cv (fun e H => S_frame_Stack_At_6 call e.x0.x3 e.x0.x4 e.x0.x6 e.x1.x15 e.x1.x19 e.x2.x1 e.x2.x4 H) (sq (sq (cv (fun e H => S_frame_Stack_At_5 call e.x0.x3 e.x0.x4 e.x0.x6 e.x1.x15 e.x1.x19 e.x2.x1 e.x2.x5 H) (sq (sq (cv (fun e H => S_frame_Stack_At_4 call e.x0.x3 e.x0.x4 e.x0.x6 e.x1.x15 e.x1.x19 e.x2.x6 H) (sq (sq (cv (fun e H => S_frame_Stack_At_3 call e.x0.x3 e.x0.x4 e.x0.x6 e.x1.x15 e.x1.x19 e.x2.x7 H) (sq (sq (cv (fun e H => S_frame_Stack_At_2 call e.x0.x3 e.x0.x4 e.x0.x6 e.x1.x15 e.x1.x19 e.x2.x8 H) (sq (sq (cv (fun e H => S_frame_Stack_At_1 call e.x0.x3 e.x0.x4 e.x0.x6 e.x1.x15 e.x1.x19 e.x2.x9 H) (sq (sq (cv (fun e H => S_frame_Stack_At_0 call e.x0.x3 e.x0.x4 e.x0.x6 e.x1.x15 e.x2.x10 H) se) se) se)) se) se)) se) se)) se) se)) se) se)) se) se)) se) se)) se) se)) se) se)) se) se)) se) se)) se) se)) se) se)) se) se)) se) se)) se) se)) se) se)) se) se)) se) se)) se) se)) se) se)) se) se)) se) se)) se) se)) se) se)) se) se)) se) se)) se) se)) se) se)) se) se)) se) se)) se) se)) se) se))) se) se))
theorem S_frame_Stack_Top_ok : Stands Tryz.prog [0] 1000000 n_frame_Stack_Top S_frame_Stack_Top :=
  stands_of (s := S_frame_Stack_Top) 14 [.cell (.some 3) 2, .tmp 3] 1 (fun call e H => S_frame_Stack_Top_0 call e.x0.x0 H) (fun call _ H _ h => by obtain ⟨t0, rfl, h⟩ := argA1_eq h; exact ⟨rfl, (show _ = S_frame_Stack_Top_0 call t0 H by kernel_rfl).trans h⟩)
    fun call => (cv (fun e H => S_frame_Stack_Top_0 call e.x0.x0 H) se)
theorem S_vm_isAct_ok : Stands Tryz.prog [0] 1000000 n_vm_isAct S_vm_isAct :=
  stands_of (s := S_vm_isAct) 23 [.tmp 4] 2 (fun call e H => S_vm_isAct_5 call e.x0.x0 e.x0.x1 H) (fun call _ H _ h => by obtain ⟨t0, t1, rfl, h⟩ := argA2_eq h; exact ⟨rfl, (show _ = S_vm_isAct_5 call t0 t1 H by kernel_rfl).trans h⟩)
    fun call => (cv (fun e H => S_vm_isAct_5 call e.x0.x0 e.x0.x1 H) (sq (sq se (sq (sq (cv (fun e H => S_vm_isAct_4 call e.x0.x0 e.x0.x1 e.x0.x7 e.x0.x9 H) (sq (sq (cv (fun e H => S_vm_isAct_3 call e.x0.x0 e.x0.x1 e.x0.x11 e.x0.x13 H) (sq (sq (cv (fun e H => S_vm_isAct_2 call e.x0.x1 e.x0.x15 e.x0.x18 H) (sq (sq (cv (fun e H => S_vm_isAct_1 call e.x0.x15 e.x0.x18 e.x1.x0 H) (sq (sq (cv (fun e H => S_vm_isAct_0 call e.x0.x15 e.x1.x1 H) se) se) se)) se) se)) se) se)) se) se)) se) se)) se))
theorem S_frame_Stack_Depth_ok : Stands Tryz.prog [0] 1000000 n_frame_Stack_Depth S_frame_Stack_Depth :=
  stands_of (s := S_frame_Stack_Depth) 8 [.tmp 2] 1 (fun call e H => S_frame_Stack_Depth_0 call e.x0.x0 H) (fun call _ H _ h => by obtain ⟨t0, rfl, h⟩ := argA1_eq h; exact ⟨rfl, (show _ = S_frame_Stack_Depth_0 call t0 H by kernel_rfl).trans h⟩)
    fun call => (cv (fun e H => S_frame_Stack_Depth_0 call e.x0.x0 H) se)
theorem S_vm_doing_do_ok : Stands Tryz.prog [0] 1000000 n_vm_doing_do S_vm_doing_do :=
  stands_of (s := S_vm_doing_do) 98 [] 1 (fun call e H => S_vm_doing_do_5 call e.x0.x0 H) (fun call _ H _ h => by obtain ⟨t0, rfl, h⟩ := argA1_eq h; exact ⟨rfl, (show _ = S_vm_doing_do_5 call t0 H by kernel_rfl).trans h⟩)
    fun call => (cv (fun e H => S_vm_doing_do_5 call e.x0.x0 H) (sq (bl (sq (cn se (sq (cn se (sq (cn se (sq (cn se (sq (cn (sq (cv (fun e H => S_vm_doing_do_0 call e.x0.x0 H) se) se) se) se)) se)) (sq (sq (cv (fun e H => S_vm_doing_do_3 call e.x0.x0 e.x0.x2 e.x1.x7 e.x1.x9 H) (sq (sq (cv (fun e H => S_vm_doing_do_2 call e.x0.x0 e.x0.x2 e.x1.x11 e.x1.x13 H) (sq (sq (cv (fun e H => S_vm_doing_do_1 call e.x0.x0 e.x0.x2 e.x1.x15 e.x1.x17 H) se) se) se)) se) se)) se) se))) se)) (sq (sq (cv (fun e H => S_vm_doing_do_4 call e.x0.x0 e.x0.x2 e.x0.x13 e.x0.x15 H) se) se) se))) se))
end Go.Proofs.YtdccenbljfanpaaGreatDoor
