/- What functions of the program come to, part B: no statement is proved here. -/
import Derived.Test.YtbmbndfmpndmfaaDoorGA
namespace Go.Proofs.YtbmbndfmpndmfaaDoor
open Go Go.Vm Go.Proofs
set_option maxRecDepth 100000
set_option maxHeartbeats 4000000
/-! rondeauref15.Check (r15_Check) -/
abbrev X_r15_Check : Type := (Sl TApi_Event)
abbrev R_r15_Check : Type := Int × Int
noncomputable def J_r15_Check : Job Tryd.prog :=
  job Tryd.prog Tryd.f21 21 [] [] [] [] [.any, .any] [] [con_r15_Right] R_r15_Check [] fun y => [V.tup (V.cons ((V.int .i64) y.1) (V.cons ((V.int .i64) y.2) (V.unit)))]
noncomputable def S_r15_Check : LabS :=
  lab0 Tryd.f21 1 0 X_r15_Check (fun x => [esl_TApi_Event x]) fun l => (dsl_TApi_Event (at_ l 0))
structure X_r15_Check_4 where
  l_0 : (Sl TApi_Event)
  i_4 : Int
noncomputable def S_r15_Check_4 : LabS :=
  labAt Tryd.f21 4 [(0, hsl_TApi_Event), (4, .any)] [] [] X_r15_Check_4 (fun x => [esl_TApi_Event x.l_0, (V.int .i64) x.i_4]) fun l => ⟨dsl_TApi_Event (at_ l 0), dI (at_ l 1)⟩
noncomputable def tt_r15_Check_4 (D_r15_Check_4 : Dyn X_r15_Check_4 R_r15_Check) (x : X_r15_Check_4) : TT Tryd.prog R_r15_Check :=
 (.ite (ilt x.i_4 ((x.l_0.n : Nat) : Int))
 (.need (inb x.i_4 x.l_0.n) <|
 (.call con_r15_Right (x.l_0.get (Int.toNat x.i_4)) fun (y2 : R_r15_Right) =>
 (.ite (!y2)
 (.ret (x.i_4, 3))
 (.jump S_r15_Check_4 D_r15_Check_4 (X_r15_Check_4.mk x.l_0 (IntKind.i64.wrap (x.i_4 + 1)))))))
 (.ret (0, 0)))
theorem sd_r15_Check_4 (D_r15_Check_4 : Dyn X_r15_Check_4 R_r15_Check) (x : X_r15_Check_4) : (tt_r15_Check_4 D_r15_Check_4 x).Sides :=
  (TT.s_ite (TT.s_need (TT.s_call fun _ => (TT.s_ite TT.s_ret TT.s_jump))) TT.s_ret)

noncomputable def D_r15_Check_4 : Dyn X_r15_Check_4 R_r15_Check := Dyn.loop tt_r15_Check_4
theorem ok_r15_Check_4 : LabOK J_r15_Check S_r15_Check_4 D_r15_Check_4 :=
  loop_ok fun D_r15_Check_4 h_4 => lab_ok mixed_ok (labs_cons2 h_4 rfl labs_nil) 4000 (fun x => by kernel_rfl) (sd_r15_Check_4 D_r15_Check_4)
noncomputable def tt_r15_Check (x : X_r15_Check) : TT Tryd.prog R_r15_Check :=
 (.ite (ilt 65536 ((x.n : Nat) : Int))
 (.ret (0, 4))
 (.jump S_r15_Check_4 D_r15_Check_4 (X_r15_Check_4.mk x 0)))
theorem sd_r15_Check (x : X_r15_Check) : (tt_r15_Check x).Sides :=
  (TT.s_ite TT.s_ret TT.s_jump)

noncomputable def D_r15_Check : Dyn X_r15_Check R_r15_Check := .of tt_r15_Check
noncomputable def con_r15_Check : Con Tryd.prog :=
  mkCon 21 J_r15_Check S_r15_Check D_r15_Check D_r15_Check (fun _ _ h => h) 1 0 [hsl_TApi_Event] (by kernel_rfl) (by kernel_rfl) (by kernel_rfl) (lab_ok mixed_ok (labs_cons2 ok_r15_Check_4 rfl labs_nil) 4000 (fun x => by kernel_rfl) sd_r15_Check) rfl rfl (fun _ => rfl) (by kernel_rfl) rfl (fun _ => rfl) (fun x y _ => by kernel_rfl)

/-! rondeauref15.Print (r15_Print) -/
abbrev X_r15_Print : Type := (Sl TApi_Event)
abbrev R_r15_Print : Type := ByteArray
noncomputable def J_r15_Print : Job Tryd.prog :=
  job Tryd.prog Tryd.f22 20 [] [] [] [] [.any] [] [con_r15_Line] R_r15_Print [] fun y => [V.str y]
noncomputable def S_r15_Print : LabS :=
  lab0 Tryd.f22 1 0 X_r15_Print (fun x => [esl_TApi_Event x]) fun l => (dsl_TApi_Event (at_ l 0))
structure X_r15_Print_3 where
  l_0 : (Sl TApi_Event)
  s_3 : ByteArray
  i_4 : Int
noncomputable def S_r15_Print_3 : LabS :=
  labAt Tryd.f22 3 [(0, hsl_TApi_Event), (3, .any), (4, .any)] [] [] X_r15_Print_3 (fun x => [esl_TApi_Event x.l_0, V.str x.s_3, (V.int .i64) x.i_4]) fun l => ⟨dsl_TApi_Event (at_ l 0), dS (at_ l 1), dI (at_ l 2)⟩
noncomputable def tt_r15_Print_3 (D_r15_Print_3 : Dyn X_r15_Print_3 R_r15_Print) (x : X_r15_Print_3) : TT Tryd.prog R_r15_Print :=
 (.ite (ilt x.i_4 ((x.l_0.n : Nat) : Int))
 (.need (inb x.i_4 x.l_0.n) <|
 (.call con_r15_Line (x.l_0.get (Int.toNat x.i_4)) fun (y2 : R_r15_Line) =>
 (.need (decide ((((ByteArray.size y2) + (ByteArray.size (ByteArray.mk #[10]))) ≤ (9223372036854775807 : Nat)))) <|
 (.need (decide ((((ByteArray.size x.s_3) + (ByteArray.size (y2 ++ (ByteArray.mk #[10])))) ≤ (9223372036854775807 : Nat)))) <|
 (.jump S_r15_Print_3 D_r15_Print_3 (X_r15_Print_3.mk x.l_0 (x.s_3 ++ (y2 ++ (ByteArray.mk #[10]))) (IntKind.i64.wrap (x.i_4 + 1))))))))
 (.ret x.s_3))
theorem sd_r15_Print_3 (D_r15_Print_3 : Dyn X_r15_Print_3 R_r15_Print) (x : X_r15_Print_3) : (tt_r15_Print_3 D_r15_Print_3 x).Sides :=
  (TT.s_ite (TT.s_need (TT.s_call fun _ => (TT.s_need (TT.s_need TT.s_jump)))) TT.s_ret)

noncomputable def D_r15_Print_3 : Dyn X_r15_Print_3 R_r15_Print := Dyn.loop tt_r15_Print_3
theorem ok_r15_Print_3 : LabOK J_r15_Print S_r15_Print_3 D_r15_Print_3 :=
  loop_ok fun D_r15_Print_3 h_3 => lab_ok mixed_ok (labs_cons2 h_3 rfl labs_nil) 4000 (fun x => by kernel_rfl) (sd_r15_Print_3 D_r15_Print_3)
noncomputable def tt_r15_Print (x : X_r15_Print) : TT Tryd.prog R_r15_Print :=
 (.jump S_r15_Print_3 D_r15_Print_3 (X_r15_Print_3.mk x (ByteArray.mk #[]) 0))
theorem sd_r15_Print (x : X_r15_Print) : (tt_r15_Print x).Sides :=
  TT.s_jump

noncomputable def D_r15_Print : Dyn X_r15_Print R_r15_Print := .of tt_r15_Print
noncomputable def con_r15_Print : Con Tryd.prog :=
  mkCon 22 J_r15_Print S_r15_Print D_r15_Print D_r15_Print (fun _ _ h => h) 1 0 [hsl_TApi_Event] (by kernel_rfl) (by kernel_rfl) (by kernel_rfl) (lab_ok mixed_ok (labs_cons2 ok_r15_Print_3 rfl labs_nil) 4000 (fun x => by kernel_rfl) sd_r15_Print) rfl rfl (fun _ => rfl) (by kernel_rfl) rfl (fun _ => rfl) (fun x y _ => by kernel_rfl)

/-! rondeaulaw15.EventPrints (w15_EventPrints) -/
abbrev X_w15_EventPrints : Type := (Sl TApi_Event)
abbrev R_w15_EventPrints : Type := Bool
noncomputable def J_w15_EventPrints : Job Tryd.prog :=
  job Tryd.prog Tryd.f4 57 [(17, 1), (24, 1), (31, 1), (54, 1)] [] [] [] [.any] [] [con_event_Check, con_event_Print, con_r15_Check, con_r15_Print, con_w15_awake] R_w15_EventPrints [] fun y => [V.bool y]
noncomputable def S_w15_EventPrints : LabS :=
  lab0 Tryd.f4 1 0 X_w15_EventPrints (fun x => [esl_TApi_Event x]) fun l => (dsl_TApi_Event (at_ l 0))
structure X_w15_EventPrints_3 where
  l_0 : (Sl TApi_Event)
noncomputable def S_w15_EventPrints_3 : LabS :=
  labAt Tryd.f4 3 [(0, hsl_TApi_Event)] [] [] X_w15_EventPrints_3 (fun x => [esl_TApi_Event x.l_0]) fun l => ⟨dsl_TApi_Event (at_ l 0)⟩
structure X_w15_EventPrints_8 where
  l_0 : (Sl TApi_Event)
  s_3 : ByteArray
  k_8 : Int
noncomputable def S_w15_EventPrints_8 : LabS :=
  labAt Tryd.f4 8 [(0, hsl_TApi_Event), (3, .any), (8, .any)] [] [] X_w15_EventPrints_8 (fun x => [esl_TApi_Event x.l_0, V.str x.s_3, (V.int .i64) x.k_8]) fun l => ⟨dsl_TApi_Event (at_ l 0), dS (at_ l 1), dI (at_ l 2)⟩
noncomputable def tt_w15_EventPrints_8 (x : X_w15_EventPrints_8) : TT Tryd.prog R_w15_EventPrints :=
 (.ite (!(ieq x.k_8 0))
 (.ret (seq x.s_3 (ByteArray.mk #[])))
 (.call con_r15_Print x.l_0 fun (y1 : R_r15_Print) =>
 (.ret (seq x.s_3 y1))))
theorem sd_w15_EventPrints_8 (x : X_w15_EventPrints_8) : (tt_w15_EventPrints_8 x).Sides :=
  (TT.s_ite TT.s_ret (TT.s_call fun _ => TT.s_ret))

noncomputable def D_w15_EventPrints_8 : Dyn X_w15_EventPrints_8 R_w15_EventPrints := .of tt_w15_EventPrints_8
theorem ok_w15_EventPrints_8 : LabOK J_w15_EventPrints S_w15_EventPrints_8 D_w15_EventPrints_8 :=
  lab_ok mixed_ok labs_nil 4000 (fun x => by kernel_rfl) sd_w15_EventPrints_8
noncomputable def tt_w15_EventPrints_3 (x : X_w15_EventPrints_3) : TT Tryd.prog R_w15_EventPrints :=
 (.need (true && (room ((0 : Nat) + x.l_0.n) 40)) <|
 (.call con_event_Print (Sl.mk (cond (Nat.beq x.l_0.n 0) false false) ((0 : Nat) + x.l_0.n) (fun i1 => (TApi_Event.mk (cond (Nat.blt i1 0) (0 : Int) (x.l_0.get (i1 - 0)).Thread) (cond (Nat.blt i1 0) (0 : Int) (x.l_0.get (i1 - 0)).Kind) (cond (Nat.blt i1 0) (0 : Int) (x.l_0.get (i1 - 0)).Ring) (cond (Nat.blt i1 0) (0 : Int) (x.l_0.get (i1 - 0)).Ticket) (cond (Nat.blt i1 0) (0 : Int) (x.l_0.get (i1 - 0)).Value)))) fun (y1 : R_event_Print) =>
 (.need (true && (room ((0 : Nat) + x.l_0.n) 40)) <|
 (.call con_event_Check (Sl.mk (cond (Nat.beq x.l_0.n 0) false false) ((0 : Nat) + x.l_0.n) (fun i2 => (TApi_Event.mk (cond (Nat.blt i2 0) (0 : Int) (x.l_0.get (i2 - 0)).Thread) (cond (Nat.blt i2 0) (0 : Int) (x.l_0.get (i2 - 0)).Kind) (cond (Nat.blt i2 0) (0 : Int) (x.l_0.get (i2 - 0)).Ring) (cond (Nat.blt i2 0) (0 : Int) (x.l_0.get (i2 - 0)).Ticket) (cond (Nat.blt i2 0) (0 : Int) (x.l_0.get (i2 - 0)).Value)))) fun (y2 : R_event_Check) =>
 (.call con_r15_Check x.l_0 fun (y3 : R_r15_Check) =>
 (.ite (!(ieq y2.fst y3.fst))
 (.ret false)
 (.ite (!(ieq y2.snd y3.snd))
 (.ret false)
 (.ite (!(ieq y1.snd y2.snd))
 (.ret false)
 (.jump S_w15_EventPrints_8 D_w15_EventPrints_8 (X_w15_EventPrints_8.mk x.l_0 y1.fst y3.snd))))))))))
theorem sd_w15_EventPrints_3 (x : X_w15_EventPrints_3) : (tt_w15_EventPrints_3 x).Sides :=
  (TT.s_need (TT.s_call fun _ => (TT.s_need (TT.s_call fun _ => (TT.s_call fun _ => (TT.s_ite TT.s_ret (TT.s_ite TT.s_ret (TT.s_ite TT.s_ret TT.s_jump))))))))

noncomputable def D_w15_EventPrints_3 : Dyn X_w15_EventPrints_3 R_w15_EventPrints := .of tt_w15_EventPrints_3
theorem ok_w15_EventPrints_3 : LabOK J_w15_EventPrints S_w15_EventPrints_3 D_w15_EventPrints_3 :=
  lab_ok mixed_ok (labs_cons2 ok_w15_EventPrints_8 rfl labs_nil) 4000 (fun x => by kernel_rfl) sd_w15_EventPrints_3
noncomputable def tt_w15_EventPrints (x : X_w15_EventPrints) : TT Tryd.prog R_w15_EventPrints :=
 (.call con_w15_awake PUnit.unit fun (y1 : R_w15_awake) =>
 (.ite (!y1)
 (.call con_w15_awake PUnit.unit fun (y2 : R_w15_awake) =>
 (.ret y2))
 (.ite (ilt 200 ((x.n : Nat) : Int))
 (.call con_w15_awake PUnit.unit fun (y2 : R_w15_awake) =>
 (.ret y2))
 (.jump S_w15_EventPrints_3 D_w15_EventPrints_3 (X_w15_EventPrints_3.mk x)))))
theorem sd_w15_EventPrints (x : X_w15_EventPrints) : (tt_w15_EventPrints x).Sides :=
  (TT.s_call fun _ => (TT.s_ite (TT.s_call fun _ => TT.s_ret) (TT.s_ite (TT.s_call fun _ => TT.s_ret) TT.s_jump)))

noncomputable def D_w15_EventPrints : Dyn X_w15_EventPrints R_w15_EventPrints := .of tt_w15_EventPrints
noncomputable def con_w15_EventPrints : Con Tryd.prog :=
  mkCon 4 J_w15_EventPrints S_w15_EventPrints D_w15_EventPrints D_w15_EventPrints (fun _ _ h => h) 1 0 [hsl_TApi_Event] (by kernel_rfl) (by kernel_rfl) (by kernel_rfl) (lab_ok mixed_ok (labs_cons2 ok_w15_EventPrints_8 rfl (labs_cons2 ok_w15_EventPrints_3 rfl labs_nil)) 4000 (fun x => by kernel_rfl) sd_w15_EventPrints) rfl rfl (fun _ => rfl) (by kernel_rfl) rfl (fun _ => rfl) (fun x y _ => by kernel_rfl)

/-! rondeauref15.number (r15_number) -/
abbrev X_r15_number : Type := ByteArray
abbrev R_r15_number : Type := Int
noncomputable def J_r15_number : Job Tryd.prog :=
  job Tryd.prog Tryd.f50 20 [] [] [] [] [.any] [] [] R_r15_number [] fun y => [(V.int .u64) y]
noncomputable def S_r15_number : LabS :=
  lab0 Tryd.f50 1 0 X_r15_number (fun x => [V.str x]) fun l => (dS (at_ l 0))
structure X_r15_number_3 where
  s_0 : ByteArray
  n_3 : Int
  i_4 : Int
noncomputable def S_r15_number_3 : LabS :=
  labAt Tryd.f50 3 [(0, .any), (3, .any), (4, .any)] [] [] X_r15_number_3 (fun x => [V.str x.s_0, (V.int .u64) x.n_3, (V.int .i64) x.i_4]) fun l => ⟨dS (at_ l 0), dI (at_ l 1), dI (at_ l 2)⟩
noncomputable def tt_r15_number_3 (D_r15_number_3 : Dyn X_r15_number_3 R_r15_number) (x : X_r15_number_3) : TT Tryd.prog R_r15_number :=
 (.ite (ilt x.i_4 (((ByteArray.size x.s_0) : Nat) : Int))
 (.need (inb x.i_4 (ByteArray.size x.s_0)) <|
 (.jump S_r15_number_3 D_r15_number_3 (X_r15_number_3.mk x.s_0 (IntKind.u64.wrap ((IntKind.u64.wrap ((10 : Int) * x.n_3)) + (IntKind.u64.wrap (IntKind.u8.wrap ((bt x.s_0 (Int.toNat x.i_4)) - 48))))) (IntKind.i64.wrap (x.i_4 + 1)))))
 (.ret x.n_3))
theorem sd_r15_number_3 (D_r15_number_3 : Dyn X_r15_number_3 R_r15_number) (x : X_r15_number_3) : (tt_r15_number_3 D_r15_number_3 x).Sides :=
  (TT.s_ite (TT.s_need TT.s_jump) TT.s_ret)

noncomputable def D_r15_number_3 : Dyn X_r15_number_3 R_r15_number := Dyn.loop tt_r15_number_3
theorem ok_r15_number_3 : LabOK J_r15_number S_r15_number_3 D_r15_number_3 :=
  loop_ok fun D_r15_number_3 h_3 => lab_ok mixed_ok (labs_cons2 h_3 rfl labs_nil) 4000 (fun x => by kernel_rfl) (sd_r15_number_3 D_r15_number_3)
noncomputable def tt_r15_number (x : X_r15_number) : TT Tryd.prog R_r15_number :=
 (.jump S_r15_number_3 D_r15_number_3 (X_r15_number_3.mk x 0 0))
theorem sd_r15_number (x : X_r15_number) : (tt_r15_number x).Sides :=
  TT.s_jump

noncomputable def D_r15_number : Dyn X_r15_number R_r15_number := .of tt_r15_number
noncomputable def con_r15_number : Con Tryd.prog :=
  mkCon 50 J_r15_number S_r15_number D_r15_number D_r15_number (fun _ _ h => h) 1 0 [.any] (by kernel_rfl) (by kernel_rfl) (by kernel_rfl) (lab_ok mixed_ok (labs_cons2 ok_r15_number_3 rfl labs_nil) 4000 (fun x => by kernel_rfl) sd_r15_number) rfl rfl (fun _ => rfl) (by kernel_rfl) rfl (fun _ => rfl) (fun x y _ => by kernel_rfl)

/-! rondeauref15.ReadLine (r15_ReadLine) -/
abbrev X_r15_ReadLine : Type := ByteArray
abbrev R_r15_ReadLine : Type := TApi_Event × Bool
noncomputable def J_r15_ReadLine : Job Tryd.prog :=
  job Tryd.prog Tryd.f39 115 [(28, 1)] [] [] [] [.any, .any] [] [con_r15_Line, con_r15_Name, con_r15_Names, con_r15_Right, con_r15_number] R_r15_ReadLine [] fun y => [V.tup (V.cons (e_TApi_Event y.1) (V.cons (V.bool y.2) (V.unit)))]
noncomputable def S_r15_ReadLine : LabS :=
  lab0 Tryd.f39 1 0 X_r15_ReadLine (fun x => [V.str x]) fun l => (dS (at_ l 0))
structure X_r15_ReadLine_4 where
  s_0 : ByteArray
  w_4 : (Sl ByteArray)
  at_5 : Int
  i_6 : Int
  m_2 : TApi_Event
noncomputable def S_r15_ReadLine_4 : LabS :=
  labAt Tryd.f39 4 [(0, .any), (2, .any), (4, hslA_str), (5, .any), (6, .any)] [] [(.loc 2 0, .any)] X_r15_ReadLine_4 (fun x => [V.str x.s_0, (V.ptr (.loc 2 0) []), eslA_str x.w_4, (V.int .i64) x.at_5, (V.int .i64) x.i_6, e_TApi_Event x.m_2]) fun l => ⟨dS (at_ l 0), dslA_str (at_ l 2), dI (at_ l 3), dI (at_ l 4), d_TApi_Event (at_ l 5)⟩
structure X_r15_ReadLine_5 where
  s_0 : ByteArray
  w_4 : (Sl ByteArray)
  at_5 : Int
  i_6 : Int
  m_2 : TApi_Event
noncomputable def S_r15_ReadLine_5 : LabS :=
  labAt Tryd.f39 5 [(0, .any), (2, .any), (4, hslA_str), (5, .any), (6, .any)] [] [(.loc 2 0, .any)] X_r15_ReadLine_5 (fun x => [V.str x.s_0, (V.ptr (.loc 2 0) []), eslA_str x.w_4, (V.int .i64) x.at_5, (V.int .i64) x.i_6, e_TApi_Event x.m_2]) fun l => ⟨dS (at_ l 0), dslA_str (at_ l 2), dI (at_ l 3), dI (at_ l 4), d_TApi_Event (at_ l 5)⟩
structure X_r15_ReadLine_9 where
  s_0 : ByteArray
  w_4 : (Sl ByteArray)
  m_2 : TApi_Event
noncomputable def S_r15_ReadLine_9 : LabS :=
  labAt Tryd.f39 9 [(0, .any), (2, .any), (4, hslA_str)] [] [(.loc 2 0, .any)] X_r15_ReadLine_9 (fun x => [V.str x.s_0, (V.ptr (.loc 2 0) []), eslA_str x.w_4, e_TApi_Event x.m_2]) fun l => ⟨dS (at_ l 0), dslA_str (at_ l 2), d_TApi_Event (at_ l 3)⟩
structure X_r15_ReadLine_11 where
  s_0 : ByteArray
  w_4 : (Sl ByteArray)
  m_2 : TApi_Event
noncomputable def S_r15_ReadLine_11 : LabS :=
  labAt Tryd.f39 11 [(0, .any), (2, .any), (4, hslA_str)] [] [(.loc 2 0, .any)] X_r15_ReadLine_11 (fun x => [V.str x.s_0, (V.ptr (.loc 2 0) []), eslA_str x.w_4, e_TApi_Event x.m_2]) fun l => ⟨dS (at_ l 0), dslA_str (at_ l 2), d_TApi_Event (at_ l 3)⟩
structure X_r15_ReadLine_13 where
  s_0 : ByteArray
  w_4 : (Sl ByteArray)
  k_8 : Int
  m_2 : TApi_Event
  m_7 : TApi_Event
noncomputable def S_r15_ReadLine_13 : LabS :=
  labAt Tryd.f39 13 [(0, .any), (2, .any), (4, hslA_str), (7, .any), (8, .any)] [] [(.loc 2 0, .any), (.loc 7 0, .any)] X_r15_ReadLine_13 (fun x => [V.str x.s_0, (V.ptr (.loc 2 0) []), eslA_str x.w_4, (V.ptr (.loc 7 0) []), (V.int .i64) x.k_8, e_TApi_Event x.m_2, e_TApi_Event x.m_7]) fun l => ⟨dS (at_ l 0), dslA_str (at_ l 2), dI (at_ l 4), d_TApi_Event (at_ l 5), d_TApi_Event (at_ l 6)⟩
structure X_r15_ReadLine_14 where
  s_0 : ByteArray
  w_4 : (Sl ByteArray)
  k_8 : Int
  m_2 : TApi_Event
  m_7 : TApi_Event
noncomputable def S_r15_ReadLine_14 : LabS :=
  labAt Tryd.f39 14 [(0, .any), (2, .any), (4, hslA_str), (7, .any), (8, .any)] [] [(.loc 2 0, .any), (.loc 7 0, .any)] X_r15_ReadLine_14 (fun x => [V.str x.s_0, (V.ptr (.loc 2 0) []), eslA_str x.w_4, (V.ptr (.loc 7 0) []), (V.int .i64) x.k_8, e_TApi_Event x.m_2, e_TApi_Event x.m_7]) fun l => ⟨dS (at_ l 0), dslA_str (at_ l 2), dI (at_ l 4), d_TApi_Event (at_ l 5), d_TApi_Event (at_ l 6)⟩
structure X_r15_ReadLine_17 where
  s_0 : ByteArray
  w_4 : (Sl ByteArray)
  m_2 : TApi_Event
  m_7 : TApi_Event
noncomputable def S_r15_ReadLine_17 : LabS :=
  labAt Tryd.f39 17 [(0, .any), (2, .any), (4, hslA_str), (7, .any)] [] [(.loc 2 0, .any), (.loc 7 0, .any)] X_r15_ReadLine_17 (fun x => [V.str x.s_0, (V.ptr (.loc 2 0) []), eslA_str x.w_4, (V.ptr (.loc 7 0) []), e_TApi_Event x.m_2, e_TApi_Event x.m_7]) fun l => ⟨dS (at_ l 0), dslA_str (at_ l 2), d_TApi_Event (at_ l 4), d_TApi_Event (at_ l 5)⟩
structure X_r15_ReadLine_21 where
  s_0 : ByteArray
  w_4 : (Sl ByteArray)
  f_9 : ByteArray
  i_10 : Int
  m_2 : TApi_Event
  m_7 : TApi_Event
noncomputable def S_r15_ReadLine_21 : LabS :=
  labAt Tryd.f39 21 [(0, .any), (2, .any), (4, hslA_str), (7, .any), (9, .any), (10, .any)] [] [(.loc 2 0, .any), (.loc 7 0, .any)] X_r15_ReadLine_21 (fun x => [V.str x.s_0, (V.ptr (.loc 2 0) []), eslA_str x.w_4, (V.ptr (.loc 7 0) []), V.str x.f_9, (V.int .i64) x.i_10, e_TApi_Event x.m_2, e_TApi_Event x.m_7]) fun l => ⟨dS (at_ l 0), dslA_str (at_ l 2), dS (at_ l 4), dI (at_ l 5), d_TApi_Event (at_ l 6), d_TApi_Event (at_ l 7)⟩
structure X_r15_ReadLine_22 where
  s_0 : ByteArray
  w_4 : (Sl ByteArray)
  f_9 : ByteArray
  i_10 : Int
  m_2 : TApi_Event
  m_7 : TApi_Event
noncomputable def S_r15_ReadLine_22 : LabS :=
  labAt Tryd.f39 22 [(0, .any), (2, .any), (4, hslA_str), (7, .any), (9, .any), (10, .any)] [] [(.loc 2 0, .any), (.loc 7 0, .any)] X_r15_ReadLine_22 (fun x => [V.str x.s_0, (V.ptr (.loc 2 0) []), eslA_str x.w_4, (V.ptr (.loc 7 0) []), V.str x.f_9, (V.int .i64) x.i_10, e_TApi_Event x.m_2, e_TApi_Event x.m_7]) fun l => ⟨dS (at_ l 0), dslA_str (at_ l 2), dS (at_ l 4), dI (at_ l 5), d_TApi_Event (at_ l 6), d_TApi_Event (at_ l 7)⟩
structure X_r15_ReadLine_31 where
  s_0 : ByteArray
  m_2 : TApi_Event
  m_7 : TApi_Event
noncomputable def S_r15_ReadLine_31 : LabS :=
  labAt Tryd.f39 31 [(0, .any), (2, .any), (7, .any)] [] [(.loc 2 0, .any), (.loc 7 0, .any)] X_r15_ReadLine_31 (fun x => [V.str x.s_0, (V.ptr (.loc 2 0) []), (V.ptr (.loc 7 0) []), e_TApi_Event x.m_2, e_TApi_Event x.m_7]) fun l => ⟨dS (at_ l 0), d_TApi_Event (at_ l 3), d_TApi_Event (at_ l 4)⟩
noncomputable def tt_r15_ReadLine_31 (x : X_r15_ReadLine_31) : TT Tryd.prog R_r15_ReadLine :=
 (.call con_r15_Right x.m_7 fun (y1 : R_r15_Right) =>
 (.ite (!y1)
 (.ret ((TApi_Event.mk 0 0 0 0 0), false))
 (.call con_r15_Line x.m_7 fun (y2 : R_r15_Line) =>
 (.ite (!(seq y2 x.s_0))
 (.ret ((TApi_Event.mk 0 0 0 0 0), false))
 (.ret (x.m_7, true))))))
theorem sd_r15_ReadLine_31 (x : X_r15_ReadLine_31) : (tt_r15_ReadLine_31 x).Sides :=
  (TT.s_call fun _ => (TT.s_ite TT.s_ret (TT.s_call fun _ => (TT.s_ite TT.s_ret TT.s_ret))))

noncomputable def D_r15_ReadLine_31 : Dyn X_r15_ReadLine_31 R_r15_ReadLine := .of tt_r15_ReadLine_31
theorem ok_r15_ReadLine_31 : LabOK J_r15_ReadLine S_r15_ReadLine_31 D_r15_ReadLine_31 :=
  lab_ok mixed_ok labs_nil 4000 (fun x => by kernel_rfl) sd_r15_ReadLine_31
noncomputable def tt_r15_ReadLine_22 (D_r15_ReadLine_21 : Dyn X_r15_ReadLine_21 R_r15_ReadLine) (x : X_r15_ReadLine_22) : TT Tryd.prog R_r15_ReadLine :=
 (.jump S_r15_ReadLine_21 D_r15_ReadLine_21 (X_r15_ReadLine_21.mk x.s_0 x.w_4 x.f_9 (IntKind.i64.wrap (x.i_10 + 1)) x.m_2 x.m_7))
theorem sd_r15_ReadLine_22 (D_r15_ReadLine_21 : Dyn X_r15_ReadLine_21 R_r15_ReadLine) (x : X_r15_ReadLine_22) : (tt_r15_ReadLine_22 D_r15_ReadLine_21 x).Sides :=
  TT.s_jump

noncomputable def D_r15_ReadLine_22 (D_r15_ReadLine_21 : Dyn X_r15_ReadLine_21 R_r15_ReadLine) : Dyn X_r15_ReadLine_22 R_r15_ReadLine := .of (tt_r15_ReadLine_22 D_r15_ReadLine_21)
theorem ok_r15_ReadLine_22 (D_r15_ReadLine_21 : Dyn X_r15_ReadLine_21 R_r15_ReadLine) (h_21 : LabOK J_r15_ReadLine S_r15_ReadLine_21 D_r15_ReadLine_21) : LabOK J_r15_ReadLine S_r15_ReadLine_22 (D_r15_ReadLine_22 D_r15_ReadLine_21) :=
  lab_ok mixed_ok (labs_cons2 h_21 rfl (labs_cons2 ok_r15_ReadLine_31 rfl labs_nil)) 4000 (fun x => by kernel_rfl) (sd_r15_ReadLine_22 D_r15_ReadLine_21)
noncomputable def tt_r15_ReadLine_21 (D_r15_ReadLine_21 : Dyn X_r15_ReadLine_21 R_r15_ReadLine) (x : X_r15_ReadLine_21) : TT Tryd.prog R_r15_ReadLine :=
 (.ite (ilt x.i_10 (((ByteArray.size x.f_9) : Nat) : Int))
 (.need (inb (IntKind.i64.wrap ((2 : Int) + x.i_10)) x.w_4.n) <|
 (.call con_r15_number (x.w_4.get (Int.toNat (IntKind.i64.wrap ((2 : Int) + x.i_10)))) fun (y2 : R_r15_number) =>
 (.need (inb x.i_10 (ByteArray.size x.f_9)) <|
 (.ite (ieq (bt x.f_9 (Int.toNat x.i_10)) 82)
 (.jump S_r15_ReadLine_22 (D_r15_ReadLine_22 D_r15_ReadLine_21) (X_r15_ReadLine_22.mk x.s_0 x.w_4 x.f_9 x.i_10 x.m_2 (TApi_Event.mk x.m_7.Thread x.m_7.Kind (IntKind.i64.wrap (imin y2 100)) x.m_7.Ticket x.m_7.Value)))
 (.ite (ieq (bt x.f_9 (Int.toNat x.i_10)) 84)
 (.jump S_r15_ReadLine_22 (D_r15_ReadLine_22 D_r15_ReadLine_21) (X_r15_ReadLine_22.mk x.s_0 x.w_4 x.f_9 x.i_10 x.m_2 (TApi_Event.mk x.m_7.Thread x.m_7.Kind x.m_7.Ring y2 x.m_7.Value)))
 (.ite (ieq (bt x.f_9 (Int.toNat x.i_10)) 86)
 (.jump S_r15_ReadLine_22 (D_r15_ReadLine_22 D_r15_ReadLine_21) (X_r15_ReadLine_22.mk x.s_0 x.w_4 x.f_9 x.i_10 x.m_2 (TApi_Event.mk x.m_7.Thread x.m_7.Kind x.m_7.Ring x.m_7.Ticket y2)))
 (.jump S_r15_ReadLine_22 (D_r15_ReadLine_22 D_r15_ReadLine_21) (X_r15_ReadLine_22.mk x.s_0 x.w_4 x.f_9 x.i_10 x.m_2 x.m_7))))))))
 (.jump S_r15_ReadLine_31 D_r15_ReadLine_31 (X_r15_ReadLine_31.mk x.s_0 x.m_2 x.m_7)))
theorem sd_r15_ReadLine_21 (D_r15_ReadLine_21 : Dyn X_r15_ReadLine_21 R_r15_ReadLine) (x : X_r15_ReadLine_21) : (tt_r15_ReadLine_21 D_r15_ReadLine_21 x).Sides :=
  (TT.s_ite (TT.s_need (TT.s_call fun _ => (TT.s_need (TT.s_ite TT.s_jump (TT.s_ite TT.s_jump (TT.s_ite TT.s_jump TT.s_jump)))))) TT.s_jump)

noncomputable def D_r15_ReadLine_21 : Dyn X_r15_ReadLine_21 R_r15_ReadLine := Dyn.loop tt_r15_ReadLine_21
theorem ok_r15_ReadLine_21 : LabOK J_r15_ReadLine S_r15_ReadLine_21 D_r15_ReadLine_21 :=
  loop_ok fun D_r15_ReadLine_21 h_21 => lab_ok mixed_ok (labs_cons2 h_21 rfl (labs_cons2 ok_r15_ReadLine_31 rfl (labs_cons2 (ok_r15_ReadLine_22 D_r15_ReadLine_21 h_21) rfl labs_nil))) 4000 (fun x => by kernel_rfl) (sd_r15_ReadLine_21 D_r15_ReadLine_21)
noncomputable def tt_r15_ReadLine_17 (x : X_r15_ReadLine_17) : TT Tryd.prog R_r15_ReadLine :=
 (.call con_r15_Names x.m_7.Kind fun (y1 : R_r15_Names) =>
 (.ite (!(ieq ((x.w_4.n : Nat) : Int) (IntKind.i64.wrap ((2 : Int) + (((ByteArray.size y1) : Nat) : Int)))))
 (.ret ((TApi_Event.mk 0 0 0 0 0), false))
 (.jump S_r15_ReadLine_21 D_r15_ReadLine_21 (X_r15_ReadLine_21.mk x.s_0 x.w_4 y1 0 x.m_2 x.m_7))))
theorem sd_r15_ReadLine_17 (x : X_r15_ReadLine_17) : (tt_r15_ReadLine_17 x).Sides :=
  (TT.s_call fun _ => (TT.s_ite TT.s_ret TT.s_jump))

noncomputable def D_r15_ReadLine_17 : Dyn X_r15_ReadLine_17 R_r15_ReadLine := .of tt_r15_ReadLine_17
theorem ok_r15_ReadLine_17 : LabOK J_r15_ReadLine S_r15_ReadLine_17 D_r15_ReadLine_17 :=
  lab_ok mixed_ok (labs_cons2 ok_r15_ReadLine_31 rfl (labs_cons2 ok_r15_ReadLine_21 rfl labs_nil)) 4000 (fun x => by kernel_rfl) sd_r15_ReadLine_17
noncomputable def tt_r15_ReadLine_14 (D_r15_ReadLine_13 : Dyn X_r15_ReadLine_13 R_r15_ReadLine) (x : X_r15_ReadLine_14) : TT Tryd.prog R_r15_ReadLine :=
 (.jump S_r15_ReadLine_13 D_r15_ReadLine_13 (X_r15_ReadLine_13.mk x.s_0 x.w_4 (IntKind.i64.wrap (x.k_8 + 1)) x.m_2 x.m_7))
theorem sd_r15_ReadLine_14 (D_r15_ReadLine_13 : Dyn X_r15_ReadLine_13 R_r15_ReadLine) (x : X_r15_ReadLine_14) : (tt_r15_ReadLine_14 D_r15_ReadLine_13 x).Sides :=
  TT.s_jump

noncomputable def D_r15_ReadLine_14 (D_r15_ReadLine_13 : Dyn X_r15_ReadLine_13 R_r15_ReadLine) : Dyn X_r15_ReadLine_14 R_r15_ReadLine := .of (tt_r15_ReadLine_14 D_r15_ReadLine_13)
theorem ok_r15_ReadLine_14 (D_r15_ReadLine_13 : Dyn X_r15_ReadLine_13 R_r15_ReadLine) (h_13 : LabOK J_r15_ReadLine S_r15_ReadLine_13 D_r15_ReadLine_13) : LabOK J_r15_ReadLine S_r15_ReadLine_14 (D_r15_ReadLine_14 D_r15_ReadLine_13) :=
  lab_ok mixed_ok (labs_cons2 h_13 rfl (labs_cons2 ok_r15_ReadLine_31 rfl (labs_cons2 ok_r15_ReadLine_21 rfl (labs_cons2 ok_r15_ReadLine_17 rfl labs_nil)))) 4000 (fun x => by kernel_rfl) (sd_r15_ReadLine_14 D_r15_ReadLine_13)
noncomputable def tt_r15_ReadLine_13 (D_r15_ReadLine_13 : Dyn X_r15_ReadLine_13 R_r15_ReadLine) (x : X_r15_ReadLine_13) : TT Tryd.prog R_r15_ReadLine :=
 (.ite (ile x.k_8 15)
 (.call con_r15_Name x.k_8 fun (y2 : R_r15_Name) =>
 (.need (inb 1 x.w_4.n) <|
 (.ite (seq y2 (x.w_4.get (Int.toNat 1)))
 (.jump S_r15_ReadLine_14 (D_r15_ReadLine_14 D_r15_ReadLine_13) (X_r15_ReadLine_14.mk x.s_0 x.w_4 x.k_8 x.m_2 (TApi_Event.mk x.m_7.Thread x.k_8 x.m_7.Ring x.m_7.Ticket x.m_7.Value)))
 (.jump S_r15_ReadLine_14 (D_r15_ReadLine_14 D_r15_ReadLine_13) (X_r15_ReadLine_14.mk x.s_0 x.w_4 x.k_8 x.m_2 x.m_7)))))
 (.jump S_r15_ReadLine_17 D_r15_ReadLine_17 (X_r15_ReadLine_17.mk x.s_0 x.w_4 x.m_2 x.m_7)))
theorem sd_r15_ReadLine_13 (D_r15_ReadLine_13 : Dyn X_r15_ReadLine_13 R_r15_ReadLine) (x : X_r15_ReadLine_13) : (tt_r15_ReadLine_13 D_r15_ReadLine_13 x).Sides :=
  (TT.s_ite (TT.s_call fun _ => (TT.s_need (TT.s_ite TT.s_jump TT.s_jump))) TT.s_jump)

noncomputable def D_r15_ReadLine_13 : Dyn X_r15_ReadLine_13 R_r15_ReadLine := Dyn.loop tt_r15_ReadLine_13
theorem ok_r15_ReadLine_13 : LabOK J_r15_ReadLine S_r15_ReadLine_13 D_r15_ReadLine_13 :=
  loop_ok fun D_r15_ReadLine_13 h_13 => lab_ok mixed_ok (labs_cons2 h_13 rfl (labs_cons2 ok_r15_ReadLine_31 rfl (labs_cons2 ok_r15_ReadLine_21 rfl (labs_cons2 ok_r15_ReadLine_17 rfl (labs_cons2 (ok_r15_ReadLine_14 D_r15_ReadLine_13 h_13) rfl labs_nil))))) 4000 (fun x => by kernel_rfl) (sd_r15_ReadLine_13 D_r15_ReadLine_13)
noncomputable def tt_r15_ReadLine_11 (x : X_r15_ReadLine_11) : TT Tryd.prog R_r15_ReadLine :=
 (.need (inb 0 x.w_4.n) <|
 (.call con_r15_number (x.w_4.get (Int.toNat 0)) fun (y1 : R_r15_number) =>
 (.jump S_r15_ReadLine_13 D_r15_ReadLine_13 (X_r15_ReadLine_13.mk x.s_0 x.w_4 1 x.m_2 (TApi_Event.mk (IntKind.i64.wrap (imin y1 100)) 0 0 0 0)))))
theorem sd_r15_ReadLine_11 (x : X_r15_ReadLine_11) : (tt_r15_ReadLine_11 x).Sides :=
  (TT.s_need (TT.s_call fun _ => TT.s_jump))

noncomputable def D_r15_ReadLine_11 : Dyn X_r15_ReadLine_11 R_r15_ReadLine := .of tt_r15_ReadLine_11
theorem ok_r15_ReadLine_11 : LabOK J_r15_ReadLine S_r15_ReadLine_11 D_r15_ReadLine_11 :=
  lab_ok mixed_ok (labs_cons2 ok_r15_ReadLine_31 rfl (labs_cons2 ok_r15_ReadLine_21 rfl (labs_cons2 ok_r15_ReadLine_17 rfl (labs_cons2 ok_r15_ReadLine_13 rfl labs_nil)))) 4000 (fun x => by kernel_rfl) sd_r15_ReadLine_11
noncomputable def tt_r15_ReadLine_9 (x : X_r15_ReadLine_9) : TT Tryd.prog R_r15_ReadLine :=
 (.ite (ilt ((x.w_4.n : Nat) : Int) 2)
 (.ret ((TApi_Event.mk 0 0 0 0 0), false))
 (.ite (ilt 4 ((x.w_4.n : Nat) : Int))
 (.ret ((TApi_Event.mk 0 0 0 0 0), false))
 (.jump S_r15_ReadLine_11 D_r15_ReadLine_11 (X_r15_ReadLine_11.mk x.s_0 x.w_4 x.m_2))))
theorem sd_r15_ReadLine_9 (x : X_r15_ReadLine_9) : (tt_r15_ReadLine_9 x).Sides :=
  (TT.s_ite TT.s_ret (TT.s_ite TT.s_ret TT.s_jump))

noncomputable def D_r15_ReadLine_9 : Dyn X_r15_ReadLine_9 R_r15_ReadLine := .of tt_r15_ReadLine_9
theorem ok_r15_ReadLine_9 : LabOK J_r15_ReadLine S_r15_ReadLine_9 D_r15_ReadLine_9 :=
  lab_ok mixed_ok (labs_cons2 ok_r15_ReadLine_31 rfl (labs_cons2 ok_r15_ReadLine_21 rfl (labs_cons2 ok_r15_ReadLine_17 rfl (labs_cons2 ok_r15_ReadLine_13 rfl (labs_cons2 ok_r15_ReadLine_11 rfl labs_nil))))) 4000 (fun x => by kernel_rfl) sd_r15_ReadLine_9
noncomputable def tt_r15_ReadLine_5 (D_r15_ReadLine_4 : Dyn X_r15_ReadLine_4 R_r15_ReadLine) (x : X_r15_ReadLine_5) : TT Tryd.prog R_r15_ReadLine :=
 (.jump S_r15_ReadLine_4 D_r15_ReadLine_4 (X_r15_ReadLine_4.mk x.s_0 x.w_4 x.at_5 (IntKind.i64.wrap (x.i_6 + 1)) x.m_2))
theorem sd_r15_ReadLine_5 (D_r15_ReadLine_4 : Dyn X_r15_ReadLine_4 R_r15_ReadLine) (x : X_r15_ReadLine_5) : (tt_r15_ReadLine_5 D_r15_ReadLine_4 x).Sides :=
  TT.s_jump

noncomputable def D_r15_ReadLine_5 (D_r15_ReadLine_4 : Dyn X_r15_ReadLine_4 R_r15_ReadLine) : Dyn X_r15_ReadLine_5 R_r15_ReadLine := .of (tt_r15_ReadLine_5 D_r15_ReadLine_4)
theorem ok_r15_ReadLine_5 (D_r15_ReadLine_4 : Dyn X_r15_ReadLine_4 R_r15_ReadLine) (h_4 : LabOK J_r15_ReadLine S_r15_ReadLine_4 D_r15_ReadLine_4) : LabOK J_r15_ReadLine S_r15_ReadLine_5 (D_r15_ReadLine_5 D_r15_ReadLine_4) :=
  lab_ok mixed_ok (labs_cons2 h_4 rfl (labs_cons2 ok_r15_ReadLine_31 rfl (labs_cons2 ok_r15_ReadLine_21 rfl (labs_cons2 ok_r15_ReadLine_17 rfl (labs_cons2 ok_r15_ReadLine_13 rfl (labs_cons2 ok_r15_ReadLine_11 rfl (labs_cons2 ok_r15_ReadLine_9 rfl labs_nil))))))) 4000 (fun x => by kernel_rfl) (sd_r15_ReadLine_5 D_r15_ReadLine_4)
noncomputable def tt_r15_ReadLine_4 (D_r15_ReadLine_4 : Dyn X_r15_ReadLine_4 R_r15_ReadLine) (x : X_r15_ReadLine_4) : TT Tryd.prog R_r15_ReadLine :=
 (.ite (ile x.i_6 (((ByteArray.size x.s_0) : Nat) : Int))
 (.ite (ieq x.i_6 (((ByteArray.size x.s_0) : Nat) : Int))
 (.need ((upto x.i_6 (ByteArray.size x.s_0)) && (upto x.at_5 (Int.toNat x.i_6))) <|
 (.need (true && (room (x.w_4.n + 1) 16)) <|
 (.jump S_r15_ReadLine_5 (D_r15_ReadLine_5 D_r15_ReadLine_4) (X_r15_ReadLine_5.mk x.s_0 (Sl.mk (cond (Nat.beq 1 0) x.w_4.nil false) (x.w_4.n + 1) (fun i2 => (cond (Nat.blt i2 x.w_4.n) (x.w_4.get i2) (ByteArray.extract x.s_0 (Int.toNat x.at_5) (Int.toNat x.i_6))))) (IntKind.i64.wrap (x.i_6 + 1)) x.i_6 x.m_2))))
 (.need (inb x.i_6 (ByteArray.size x.s_0)) <|
 (.ite (ieq (bt x.s_0 (Int.toNat x.i_6)) 32)
 (.need ((upto x.i_6 (ByteArray.size x.s_0)) && (upto x.at_5 (Int.toNat x.i_6))) <|
 (.need (true && (room (x.w_4.n + 1) 16)) <|
 (.jump S_r15_ReadLine_5 (D_r15_ReadLine_5 D_r15_ReadLine_4) (X_r15_ReadLine_5.mk x.s_0 (Sl.mk (cond (Nat.beq 1 0) x.w_4.nil false) (x.w_4.n + 1) (fun i2 => (cond (Nat.blt i2 x.w_4.n) (x.w_4.get i2) (ByteArray.extract x.s_0 (Int.toNat x.at_5) (Int.toNat x.i_6))))) (IntKind.i64.wrap (x.i_6 + 1)) x.i_6 x.m_2))))
 (.jump S_r15_ReadLine_5 (D_r15_ReadLine_5 D_r15_ReadLine_4) (X_r15_ReadLine_5.mk x.s_0 x.w_4 x.at_5 x.i_6 x.m_2)))))
 (.jump S_r15_ReadLine_9 D_r15_ReadLine_9 (X_r15_ReadLine_9.mk x.s_0 x.w_4 x.m_2)))
theorem sd_r15_ReadLine_4 (D_r15_ReadLine_4 : Dyn X_r15_ReadLine_4 R_r15_ReadLine) (x : X_r15_ReadLine_4) : (tt_r15_ReadLine_4 D_r15_ReadLine_4 x).Sides :=
  (TT.s_ite (TT.s_ite (TT.s_need (TT.s_need TT.s_jump)) (TT.s_need (TT.s_ite (TT.s_need (TT.s_need TT.s_jump)) TT.s_jump))) TT.s_jump)

noncomputable def D_r15_ReadLine_4 : Dyn X_r15_ReadLine_4 R_r15_ReadLine := Dyn.loop tt_r15_ReadLine_4
theorem ok_r15_ReadLine_4 : LabOK J_r15_ReadLine S_r15_ReadLine_4 D_r15_ReadLine_4 :=
  loop_ok fun D_r15_ReadLine_4 h_4 => lab_ok mixed_ok (labs_cons2 h_4 rfl (labs_cons2 ok_r15_ReadLine_31 rfl (labs_cons2 ok_r15_ReadLine_21 rfl (labs_cons2 ok_r15_ReadLine_17 rfl (labs_cons2 ok_r15_ReadLine_13 rfl (labs_cons2 ok_r15_ReadLine_11 rfl (labs_cons2 ok_r15_ReadLine_9 rfl (labs_cons2 (ok_r15_ReadLine_5 D_r15_ReadLine_4 h_4) rfl labs_nil)))))))) 4000 (fun x => by kernel_rfl) (sd_r15_ReadLine_4 D_r15_ReadLine_4)
noncomputable def tt_r15_ReadLine (x : X_r15_ReadLine) : TT Tryd.prog R_r15_ReadLine :=
 (.jump S_r15_ReadLine_4 D_r15_ReadLine_4 (X_r15_ReadLine_4.mk x (Sl.mk true 0 (fun i1 => (ByteArray.mk #[]))) 0 0 (TApi_Event.mk 0 0 0 0 0)))
theorem sd_r15_ReadLine (x : X_r15_ReadLine) : (tt_r15_ReadLine x).Sides :=
  TT.s_jump

noncomputable def D_r15_ReadLine : Dyn X_r15_ReadLine R_r15_ReadLine := .of tt_r15_ReadLine
noncomputable def con_r15_ReadLine : Con Tryd.prog :=
  mkCon 39 J_r15_ReadLine S_r15_ReadLine D_r15_ReadLine D_r15_ReadLine (fun _ _ h => h) 1 0 [.any] (by kernel_rfl) (by kernel_rfl) (by kernel_rfl) (lab_ok mixed_ok (labs_cons2 ok_r15_ReadLine_31 rfl (labs_cons2 ok_r15_ReadLine_21 rfl (labs_cons2 ok_r15_ReadLine_17 rfl (labs_cons2 ok_r15_ReadLine_13 rfl (labs_cons2 ok_r15_ReadLine_11 rfl (labs_cons2 ok_r15_ReadLine_9 rfl (labs_cons2 ok_r15_ReadLine_4 rfl labs_nil))))))) 4000 (fun x => by kernel_rfl) sd_r15_ReadLine) rfl rfl (fun _ => rfl) (by kernel_rfl) rfl (fun _ => rfl) (fun x y _ => by kernel_rfl)

/-! rondeauref15.Read (r15_Read) -/
abbrev X_r15_Read : Type := ByteArray
abbrev R_r15_Read : Type := (Sl TApi_Event) × Int
noncomputable def J_r15_Read : Job Tryd.prog :=
  job Tryd.prog Tryd.f24 51 [(19, 1), (34, 1), (37, 1), (47, 1), (50, 1)] [] [] [.shut 2] [hsl_TApi_Event, .any] [] [con_r15_ReadLine] R_r15_Read [] fun y => [V.tup (V.cons (esl_TApi_Event y.1) (V.cons ((V.int .i64) y.2) (V.unit)))]
noncomputable def S_r15_Read : LabS :=
  lab0 Tryd.f24 1 0 X_r15_Read (fun x => [V.str x]) fun l => (dS (at_ l 0))
structure X_r15_Read_4 where
  s_0 : ByteArray
  l_4 : (Sl TApi_Event)
  at_5 : Int
  i_6 : Int
noncomputable def S_r15_Read_4 : LabS :=
  labAt Tryd.f24 4 [(0, .any), (4, hslA_TApi_Event), (5, .any), (6, .any)] [] [] X_r15_Read_4 (fun x => [V.str x.s_0, eslA_TApi_Event x.l_4, (V.int .i64) x.at_5, (V.int .i64) x.i_6]) fun l => ⟨dS (at_ l 0), dslA_TApi_Event (at_ l 1), dI (at_ l 2), dI (at_ l 3)⟩
structure X_r15_Read_5 where
  s_0 : ByteArray
  l_4 : (Sl TApi_Event)
  at_5 : Int
  i_6 : Int
noncomputable def S_r15_Read_5 : LabS :=
  labAt Tryd.f24 5 [(0, .any), (4, hslA_TApi_Event), (5, .any), (6, .any)] [] [] X_r15_Read_5 (fun x => [V.str x.s_0, eslA_TApi_Event x.l_4, (V.int .i64) x.at_5, (V.int .i64) x.i_6]) fun l => ⟨dS (at_ l 0), dslA_TApi_Event (at_ l 1), dI (at_ l 2), dI (at_ l 3)⟩
structure X_r15_Read_10 where
  s_0 : ByteArray
  l_4 : (Sl TApi_Event)
  i_6 : Int
  m_7 : TApi_Event
noncomputable def S_r15_Read_10 : LabS :=
  labAt Tryd.f24 10 [(0, .any), (4, hslA_TApi_Event), (6, .any), (7, .any)] [] [(.loc 7 0, .any)] X_r15_Read_10 (fun x => [V.str x.s_0, eslA_TApi_Event x.l_4, (V.int .i64) x.i_6, (V.ptr (.loc 7 0) []), e_TApi_Event x.m_7]) fun l => ⟨dS (at_ l 0), dslA_TApi_Event (at_ l 1), dI (at_ l 2), d_TApi_Event (at_ l 4)⟩
structure X_r15_Read_12 where
  s_0 : ByteArray
  l_4 : (Sl TApi_Event)
  at_5 : Int
noncomputable def S_r15_Read_12 : LabS :=
  labAt Tryd.f24 12 [(0, .any), (4, hslA_TApi_Event), (5, .any)] [] [] X_r15_Read_12 (fun x => [V.str x.s_0, eslA_TApi_Event x.l_4, (V.int .i64) x.at_5]) fun l => ⟨dS (at_ l 0), dslA_TApi_Event (at_ l 1), dI (at_ l 2)⟩
noncomputable def tt_r15_Read_12 (x : X_r15_Read_12) : TT Tryd.prog R_r15_Read :=
 (.ite (ilt x.at_5 (((ByteArray.size x.s_0) : Nat) : Int))
 (.ret ((Sl.mk true 0 (fun i1 => (TApi_Event.mk 0 0 0 0 0))), (IntKind.i64.wrap (((x.l_4.n : Nat) : Int) + 1))))
 (.ret (x.l_4, 0)))
theorem sd_r15_Read_12 (x : X_r15_Read_12) : (tt_r15_Read_12 x).Sides :=
  (TT.s_ite TT.s_ret TT.s_ret)

noncomputable def D_r15_Read_12 : Dyn X_r15_Read_12 R_r15_Read := .of tt_r15_Read_12
theorem ok_r15_Read_12 : LabOK J_r15_Read S_r15_Read_12 D_r15_Read_12 :=
  lab_ok mixed_ok labs_nil 4000 (fun x => by kernel_rfl) sd_r15_Read_12
noncomputable def tt_r15_Read_5 (D_r15_Read_4 : Dyn X_r15_Read_4 R_r15_Read) (x : X_r15_Read_5) : TT Tryd.prog R_r15_Read :=
 (.jump S_r15_Read_4 D_r15_Read_4 (X_r15_Read_4.mk x.s_0 x.l_4 x.at_5 (IntKind.i64.wrap (x.i_6 + 1))))
theorem sd_r15_Read_5 (D_r15_Read_4 : Dyn X_r15_Read_4 R_r15_Read) (x : X_r15_Read_5) : (tt_r15_Read_5 D_r15_Read_4 x).Sides :=
  TT.s_jump

noncomputable def D_r15_Read_5 (D_r15_Read_4 : Dyn X_r15_Read_4 R_r15_Read) : Dyn X_r15_Read_5 R_r15_Read := .of (tt_r15_Read_5 D_r15_Read_4)
theorem ok_r15_Read_5 (D_r15_Read_4 : Dyn X_r15_Read_4 R_r15_Read) (h_4 : LabOK J_r15_Read S_r15_Read_4 D_r15_Read_4) : LabOK J_r15_Read S_r15_Read_5 (D_r15_Read_5 D_r15_Read_4) :=
  lab_ok mixed_ok (labs_cons2 h_4 rfl (labs_cons2 ok_r15_Read_12 rfl labs_nil)) 4000 (fun x => by kernel_rfl) (sd_r15_Read_5 D_r15_Read_4)
noncomputable def tt_r15_Read_10 (D_r15_Read_4 : Dyn X_r15_Read_4 R_r15_Read) (x : X_r15_Read_10) : TT Tryd.prog R_r15_Read :=
 (.need (true && (room (x.l_4.n + 1) 40)) <|
 (.jump S_r15_Read_5 (D_r15_Read_5 D_r15_Read_4) (X_r15_Read_5.mk x.s_0 (Sl.mk (cond (Nat.beq 1 0) x.l_4.nil false) (x.l_4.n + 1) (fun i2 => (TApi_Event.mk (cond (Nat.blt i2 x.l_4.n) (x.l_4.get i2).Thread x.m_7.Thread) (cond (Nat.blt i2 x.l_4.n) (x.l_4.get i2).Kind x.m_7.Kind) (cond (Nat.blt i2 x.l_4.n) (x.l_4.get i2).Ring x.m_7.Ring) (cond (Nat.blt i2 x.l_4.n) (x.l_4.get i2).Ticket x.m_7.Ticket) (cond (Nat.blt i2 x.l_4.n) (x.l_4.get i2).Value x.m_7.Value)))) (IntKind.i64.wrap (x.i_6 + 1)) x.i_6)))
theorem sd_r15_Read_10 (D_r15_Read_4 : Dyn X_r15_Read_4 R_r15_Read) (x : X_r15_Read_10) : (tt_r15_Read_10 D_r15_Read_4 x).Sides :=
  (TT.s_need TT.s_jump)

noncomputable def D_r15_Read_10 (D_r15_Read_4 : Dyn X_r15_Read_4 R_r15_Read) : Dyn X_r15_Read_10 R_r15_Read := .of (tt_r15_Read_10 D_r15_Read_4)
theorem ok_r15_Read_10 (D_r15_Read_4 : Dyn X_r15_Read_4 R_r15_Read) (h_4 : LabOK J_r15_Read S_r15_Read_4 D_r15_Read_4) : LabOK J_r15_Read S_r15_Read_10 (D_r15_Read_10 D_r15_Read_4) :=
  lab_ok mixed_ok (labs_cons2 h_4 rfl (labs_cons2 ok_r15_Read_12 rfl (labs_cons2 (ok_r15_Read_5 D_r15_Read_4 h_4) rfl labs_nil))) 4000 (fun x => by kernel_rfl) (sd_r15_Read_10 D_r15_Read_4)
noncomputable def tt_r15_Read_4 (D_r15_Read_4 : Dyn X_r15_Read_4 R_r15_Read) (x : X_r15_Read_4) : TT Tryd.prog R_r15_Read :=
 (.ite (ilt x.i_6 (((ByteArray.size x.s_0) : Nat) : Int))
 (.need (inb x.i_6 (ByteArray.size x.s_0)) <|
 (.ite (!(ieq (bt x.s_0 (Int.toNat x.i_6)) 10))
 (.jump S_r15_Read_5 (D_r15_Read_5 D_r15_Read_4) (X_r15_Read_5.mk x.s_0 x.l_4 x.at_5 x.i_6))
 (.need ((upto x.i_6 (ByteArray.size x.s_0)) && (upto x.at_5 (Int.toNat x.i_6))) <|
 (.call con_r15_ReadLine (ByteArray.extract x.s_0 (Int.toNat x.at_5) (Int.toNat x.i_6)) fun (y2 : R_r15_ReadLine) =>
 (.ite (!y2.snd)
 (.ret ((Sl.mk true 0 (fun i3 => (TApi_Event.mk 0 0 0 0 0))), (IntKind.i64.wrap (((x.l_4.n : Nat) : Int) + 1))))
 (.ite (ile 65536 ((x.l_4.n : Nat) : Int))
 (.ret ((Sl.mk true 0 (fun i3 => (TApi_Event.mk 0 0 0 0 0))), (IntKind.i64.wrap (((x.l_4.n : Nat) : Int) + 1))))
 (.jump S_r15_Read_10 (D_r15_Read_10 D_r15_Read_4) (X_r15_Read_10.mk x.s_0 x.l_4 x.i_6 y2.fst))))))))
 (.jump S_r15_Read_12 D_r15_Read_12 (X_r15_Read_12.mk x.s_0 x.l_4 x.at_5)))
theorem sd_r15_Read_4 (D_r15_Read_4 : Dyn X_r15_Read_4 R_r15_Read) (x : X_r15_Read_4) : (tt_r15_Read_4 D_r15_Read_4 x).Sides :=
  (TT.s_ite (TT.s_need (TT.s_ite TT.s_jump (TT.s_need (TT.s_call fun _ => (TT.s_ite TT.s_ret (TT.s_ite TT.s_ret TT.s_jump)))))) TT.s_jump)

noncomputable def D_r15_Read_4 : Dyn X_r15_Read_4 R_r15_Read := Dyn.loop tt_r15_Read_4
theorem ok_r15_Read_4 : LabOK J_r15_Read S_r15_Read_4 D_r15_Read_4 :=
  loop_ok fun D_r15_Read_4 h_4 => lab_ok mixed_ok (labs_cons2 h_4 rfl (labs_cons2 ok_r15_Read_12 rfl (labs_cons2 (ok_r15_Read_5 D_r15_Read_4 h_4) rfl (labs_cons2 (ok_r15_Read_10 D_r15_Read_4 h_4) rfl labs_nil)))) 4000 (fun x => by kernel_rfl) (sd_r15_Read_4 D_r15_Read_4)
noncomputable def tt_r15_Read (x : X_r15_Read) : TT Tryd.prog R_r15_Read :=
 (.jump S_r15_Read_4 D_r15_Read_4 (X_r15_Read_4.mk x (Sl.mk true 0 (fun i1 => (TApi_Event.mk 0 0 0 0 0))) 0 0))
theorem sd_r15_Read (x : X_r15_Read) : (tt_r15_Read x).Sides :=
  TT.s_jump

noncomputable def D_r15_Read : Dyn X_r15_Read R_r15_Read := .of tt_r15_Read
noncomputable def con_r15_Read : Con Tryd.prog :=
  mkCon 24 J_r15_Read S_r15_Read D_r15_Read D_r15_Read (fun _ _ h => h) 1 0 [.any] (by kernel_rfl) (by kernel_rfl) (by kernel_rfl) (lab_ok mixed_ok (labs_cons2 ok_r15_Read_12 rfl (labs_cons2 ok_r15_Read_4 rfl labs_nil)) 4000 (fun x => by kernel_rfl) sd_r15_Read) rfl rfl (fun _ => rfl) (by kernel_rfl) rfl (fun _ => rfl) (fun x y _ => by kernel_rfl)

/-! rondeauref15.Same (r15_Same) -/
abbrev X_r15_Same : Type := (Sl TApi_Event) × (Sl TApi_Event)
abbrev R_r15_Same : Type := Bool
noncomputable def J_r15_Same : Job Tryd.prog :=
  job Tryd.prog Tryd.f25 26 [] [] [] [] [.any] [] [] R_r15_Same [] fun y => [V.bool y]
noncomputable def S_r15_Same : LabS :=
  lab0 Tryd.f25 2 0 X_r15_Same (fun x => [esl_TApi_Event x.1, esl_TApi_Event x.2]) fun l => (dsl_TApi_Event (at_ l 0), dsl_TApi_Event (at_ l 1))
structure X_r15_Same_4 where
  a_0 : (Sl TApi_Event)
  b_1 : (Sl TApi_Event)
  i_5 : Int
noncomputable def S_r15_Same_4 : LabS :=
  labAt Tryd.f25 4 [(0, hsl_TApi_Event), (1, hsl_TApi_Event), (5, .any)] [] [] X_r15_Same_4 (fun x => [esl_TApi_Event x.a_0, esl_TApi_Event x.b_1, (V.int .i64) x.i_5]) fun l => ⟨dsl_TApi_Event (at_ l 0), dsl_TApi_Event (at_ l 1), dI (at_ l 2)⟩
noncomputable def tt_r15_Same_4 (D_r15_Same_4 : Dyn X_r15_Same_4 R_r15_Same) (x : X_r15_Same_4) : TT Tryd.prog R_r15_Same :=
 (.ite (ilt x.i_5 ((x.a_0.n : Nat) : Int))
 (.need (inb x.i_5 x.a_0.n) <|
 (.need (inb x.i_5 x.b_1.n) <|
 (.ite (!((ieq (x.a_0.get (Int.toNat x.i_5)).Thread (x.b_1.get (Int.toNat x.i_5)).Thread) && ((ieq (x.a_0.get (Int.toNat x.i_5)).Kind (x.b_1.get (Int.toNat x.i_5)).Kind) && ((ieq (x.a_0.get (Int.toNat x.i_5)).Ring (x.b_1.get (Int.toNat x.i_5)).Ring) && ((ieq (x.a_0.get (Int.toNat x.i_5)).Ticket (x.b_1.get (Int.toNat x.i_5)).Ticket) && ((ieq (x.a_0.get (Int.toNat x.i_5)).Value (x.b_1.get (Int.toNat x.i_5)).Value) && true))))))
 (.ret false)
 (.jump S_r15_Same_4 D_r15_Same_4 (X_r15_Same_4.mk x.a_0 x.b_1 (IntKind.i64.wrap (x.i_5 + 1)))))))
 (.ret true))
theorem sd_r15_Same_4 (D_r15_Same_4 : Dyn X_r15_Same_4 R_r15_Same) (x : X_r15_Same_4) : (tt_r15_Same_4 D_r15_Same_4 x).Sides :=
  (TT.s_ite (TT.s_need (TT.s_need (TT.s_ite TT.s_ret TT.s_jump))) TT.s_ret)

noncomputable def D_r15_Same_4 : Dyn X_r15_Same_4 R_r15_Same := Dyn.loop tt_r15_Same_4
theorem ok_r15_Same_4 : LabOK J_r15_Same S_r15_Same_4 D_r15_Same_4 :=
  loop_ok fun D_r15_Same_4 h_4 => lab_ok mixed_ok (labs_cons2 h_4 rfl labs_nil) 4000 (fun x => by kernel_rfl) (sd_r15_Same_4 D_r15_Same_4)
noncomputable def tt_r15_Same (x : X_r15_Same) : TT Tryd.prog R_r15_Same :=
 (.ite (!(ieq ((x.fst.n : Nat) : Int) ((x.snd.n : Nat) : Int)))
 (.ret false)
 (.jump S_r15_Same_4 D_r15_Same_4 (X_r15_Same_4.mk x.fst x.snd 0)))
theorem sd_r15_Same (x : X_r15_Same) : (tt_r15_Same x).Sides :=
  (TT.s_ite TT.s_ret TT.s_jump)

noncomputable def D_r15_Same : Dyn X_r15_Same R_r15_Same := .of tt_r15_Same
noncomputable def con_r15_Same : Con Tryd.prog :=
  mkCon 25 J_r15_Same S_r15_Same D_r15_Same D_r15_Same (fun _ _ h => h) 2 0 [hsl_TApi_Event, hsl_TApi_Event] (by kernel_rfl) (by kernel_rfl) (by kernel_rfl) (lab_ok mixed_ok (labs_cons2 ok_r15_Same_4 rfl labs_nil) 4000 (fun x => by kernel_rfl) sd_r15_Same) rfl rfl (fun _ => rfl) (by kernel_rfl) rfl (fun _ => rfl) (fun x y _ => by kernel_rfl)

/-! rondeaulaw15.EventReads (w15_EventReads) -/
abbrev X_w15_EventReads : Type := ByteArray
abbrev R_w15_EventReads : Type := Bool
noncomputable def J_w15_EventReads : Job Tryd.prog :=
  job Tryd.prog Tryd.f5 68 [(18, 1), (24, 1), (39, 1), (43, 1), (55, 1), (56, 1)] [] [] [] [.any] [] [con_event_Print, con_event_Read, con_r15_Read, con_r15_Same, con_w15_awake] R_w15_EventReads [] fun y => [V.bool y]
noncomputable def S_w15_EventReads : LabS :=
  lab0 Tryd.f5 1 0 X_w15_EventReads (fun x => [V.str x]) fun l => (dS (at_ l 0))
structure X_w15_EventReads_3 where
  s_0 : ByteArray
noncomputable def S_w15_EventReads_3 : LabS :=
  labAt Tryd.f5 3 [(0, .any)] [] [] X_w15_EventReads_3 (fun x => [V.str x.s_0]) fun l => ⟨dS (at_ l 0)⟩
noncomputable def tt_w15_EventReads_3 (x : X_w15_EventReads_3) : TT Tryd.prog R_w15_EventReads :=
 (.call con_event_Read x.s_0 fun (y1 : R_event_Read) =>
 (.call con_r15_Read x.s_0 fun (y2 : R_r15_Read) =>
 (.ite (!(ieq y2.snd 0))
 (.ite (ieq y1.snd.snd 3)
 (.ite (ieq y1.snd.fst y2.snd)
 (.ret (ieq ((y1.fst.n : Nat) : Int) 0))
 (.ret false))
 (.ret false))
 (.call con_event_Print y1.fst fun (y3 : R_event_Print) =>
 (.ite (ieq y1.snd.snd 0)
 (.ite (ieq y1.snd.fst 0)
 (.call con_r15_Same (y1.fst, y2.fst) fun (y4 : R_r15_Same) =>
 (.ite y4
 (.ite (seq y3.fst x.s_0)
 (.ret (ieq y3.snd 0))
 (.ret false))
 (.ret false)))
 (.ret false))
 (.ret false))))))
theorem sd_w15_EventReads_3 (x : X_w15_EventReads_3) : (tt_w15_EventReads_3 x).Sides :=
  (TT.s_call fun _ => (TT.s_call fun _ => (TT.s_ite (TT.s_ite (TT.s_ite TT.s_ret TT.s_ret) TT.s_ret) (TT.s_call fun _ => (TT.s_ite (TT.s_ite (TT.s_call fun _ => (TT.s_ite (TT.s_ite TT.s_ret TT.s_ret) TT.s_ret)) TT.s_ret) TT.s_ret)))))

noncomputable def D_w15_EventReads_3 : Dyn X_w15_EventReads_3 R_w15_EventReads := .of tt_w15_EventReads_3
theorem ok_w15_EventReads_3 : LabOK J_w15_EventReads S_w15_EventReads_3 D_w15_EventReads_3 :=
  lab_ok mixed_ok labs_nil 4000 (fun x => by kernel_rfl) sd_w15_EventReads_3
noncomputable def tt_w15_EventReads (x : X_w15_EventReads) : TT Tryd.prog R_w15_EventReads :=
 (.call con_w15_awake PUnit.unit fun (y1 : R_w15_awake) =>
 (.ite (!y1)
 (.call con_w15_awake PUnit.unit fun (y2 : R_w15_awake) =>
 (.ret y2))
 (.ite (ilt 2000 (((ByteArray.size x) : Nat) : Int))
 (.call con_w15_awake PUnit.unit fun (y2 : R_w15_awake) =>
 (.ret y2))
 (.jump S_w15_EventReads_3 D_w15_EventReads_3 (X_w15_EventReads_3.mk x)))))
theorem sd_w15_EventReads (x : X_w15_EventReads) : (tt_w15_EventReads x).Sides :=
  (TT.s_call fun _ => (TT.s_ite (TT.s_call fun _ => TT.s_ret) (TT.s_ite (TT.s_call fun _ => TT.s_ret) TT.s_jump)))

noncomputable def D_w15_EventReads : Dyn X_w15_EventReads R_w15_EventReads := .of tt_w15_EventReads
noncomputable def con_w15_EventReads : Con Tryd.prog :=
  mkCon 5 J_w15_EventReads S_w15_EventReads D_w15_EventReads D_w15_EventReads (fun _ _ h => h) 1 0 [.any] (by kernel_rfl) (by kernel_rfl) (by kernel_rfl) (lab_ok mixed_ok (labs_cons2 ok_w15_EventReads_3 rfl labs_nil) 4000 (fun x => by kernel_rfl) sd_w15_EventReads) rfl rfl (fun _ => rfl) (by kernel_rfl) rfl (fun _ => rfl) (fun x y _ => by kernel_rfl)

/-! rondeaulaw15.EventBack (w15_EventBack) -/
abbrev X_w15_EventBack : Type := (Sl TApi_Event)
abbrev R_w15_EventBack : Type := Bool
noncomputable def J_w15_EventBack : Job Tryd.prog :=
  job Tryd.prog Tryd.f6 51 [(18, 1), (25, 1), (30, 1), (47, 1), (48, 1)] [] [] [] [.any] [] [con_event_Print, con_event_Read, con_r15_Check, con_r15_Same, con_w15_awake] R_w15_EventBack [] fun y => [V.bool y]
noncomputable def S_w15_EventBack : LabS :=
  lab0 Tryd.f6 1 0 X_w15_EventBack (fun x => [esl_TApi_Event x]) fun l => (dsl_TApi_Event (at_ l 0))
structure X_w15_EventBack_3 where
  l_0 : (Sl TApi_Event)
noncomputable def S_w15_EventBack_3 : LabS :=
  labAt Tryd.f6 3 [(0, hsl_TApi_Event)] [] [] X_w15_EventBack_3 (fun x => [esl_TApi_Event x.l_0]) fun l => ⟨dsl_TApi_Event (at_ l 0)⟩
noncomputable def tt_w15_EventBack_3 (x : X_w15_EventBack_3) : TT Tryd.prog R_w15_EventBack :=
 (.call con_r15_Check x.l_0 fun (y1 : R_r15_Check) =>
 (.ite (!(ieq y1.snd 0))
 (.ret true)
 (.call con_event_Print x.l_0 fun (y2 : R_event_Print) =>
 (.call con_event_Read y2.fst fun (y3 : R_event_Read) =>
 (.ite (ieq y2.snd 0)
 (.ite (ieq y3.snd.snd 0)
 (.ite (ieq y3.snd.fst 0)
 (.call con_r15_Same (x.l_0, y3.fst) fun (y4 : R_r15_Same) =>
 (.ret y4))
 (.ret false))
 (.ret false))
 (.ret false))))))
theorem sd_w15_EventBack_3 (x : X_w15_EventBack_3) : (tt_w15_EventBack_3 x).Sides :=
  (TT.s_call fun _ => (TT.s_ite TT.s_ret (TT.s_call fun _ => (TT.s_call fun _ => (TT.s_ite (TT.s_ite (TT.s_ite (TT.s_call fun _ => TT.s_ret) TT.s_ret) TT.s_ret) TT.s_ret)))))

noncomputable def D_w15_EventBack_3 : Dyn X_w15_EventBack_3 R_w15_EventBack := .of tt_w15_EventBack_3
theorem ok_w15_EventBack_3 : LabOK J_w15_EventBack S_w15_EventBack_3 D_w15_EventBack_3 :=
  lab_ok mixed_ok labs_nil 4000 (fun x => by kernel_rfl) sd_w15_EventBack_3
noncomputable def tt_w15_EventBack (x : X_w15_EventBack) : TT Tryd.prog R_w15_EventBack :=
 (.call con_w15_awake PUnit.unit fun (y1 : R_w15_awake) =>
 (.ite (!y1)
 (.call con_w15_awake PUnit.unit fun (y2 : R_w15_awake) =>
 (.ret y2))
 (.ite (ilt 200 ((x.n : Nat) : Int))
 (.call con_w15_awake PUnit.unit fun (y2 : R_w15_awake) =>
 (.ret y2))
 (.jump S_w15_EventBack_3 D_w15_EventBack_3 (X_w15_EventBack_3.mk x)))))
theorem sd_w15_EventBack (x : X_w15_EventBack) : (tt_w15_EventBack x).Sides :=
  (TT.s_call fun _ => (TT.s_ite (TT.s_call fun _ => TT.s_ret) (TT.s_ite (TT.s_call fun _ => TT.s_ret) TT.s_jump)))

noncomputable def D_w15_EventBack : Dyn X_w15_EventBack R_w15_EventBack := .of tt_w15_EventBack
noncomputable def con_w15_EventBack : Con Tryd.prog :=
  mkCon 6 J_w15_EventBack S_w15_EventBack D_w15_EventBack D_w15_EventBack (fun _ _ h => h) 1 0 [hsl_TApi_Event] (by kernel_rfl) (by kernel_rfl) (by kernel_rfl) (lab_ok mixed_ok (labs_cons2 ok_w15_EventBack_3 rfl labs_nil) 4000 (fun x => by kernel_rfl) sd_w15_EventBack) rfl rfl (fun _ => rfl) (by kernel_rfl) rfl (fun _ => rfl) (fun x y _ => by kernel_rfl)

/-! rondeaulaw15.EventOne (w15_EventOne) -/
abbrev X_w15_EventOne : Type := TApi_Event × TApi_Event × (Sl TApi_Event)
abbrev R_w15_EventOne : Type := Bool
noncomputable def J_w15_EventOne : Job Tryd.prog :=
  job Tryd.prog Tryd.f7 76 [(3, 3), (4, 3), (34, 1), (41, 1), (47, 1), (51, 1), (56, 1)] [] [] [] [.any] [] [con_event_Line, con_event_Same, con_w15_awake] R_w15_EventOne [] fun y => [V.bool y]
noncomputable def S_w15_EventOne : LabS :=
  lab0 Tryd.f7 3 0 X_w15_EventOne (fun x => [e_TApi_Event x.1, e_TApi_Event x.2.1, esl_TApi_Event x.2.2]) fun l => (d_TApi_Event (at_ l 0), d_TApi_Event (at_ l 1), dsl_TApi_Event (at_ l 2))
structure X_w15_EventOne_3 where
  l_2 : (Sl TApi_Event)
  a_3 : TApi_Event
  b_4 : TApi_Event
noncomputable def S_w15_EventOne_3 : LabS :=
  labAt Tryd.f7 3 [(2, hsl_TApi_Event), (3, .any), (4, .any)] [] [] X_w15_EventOne_3 (fun x => [esl_TApi_Event x.l_2, (eVp e_TApi_Event) x.a_3, (eVp e_TApi_Event) x.b_4]) fun l => ⟨dsl_TApi_Event (at_ l 0), (dVp d_TApi_Event) (at_ l 1), (dVp d_TApi_Event) (at_ l 2)⟩
structure X_w15_EventOne_6 where
  a_3 : TApi_Event
  b_4 : TApi_Event
noncomputable def S_w15_EventOne_6 : LabS :=
  labAt Tryd.f7 6 [(3, .any), (4, .any)] [] [] X_w15_EventOne_6 (fun x => [(eVp e_TApi_Event) x.a_3, (eVp e_TApi_Event) x.b_4]) fun l => ⟨(dVp d_TApi_Event) (at_ l 0), (dVp d_TApi_Event) (at_ l 1)⟩
noncomputable def tt_w15_EventOne_6 (x : X_w15_EventOne_6) : TT Tryd.prog R_w15_EventOne :=
 (.call con_event_Line x.a_3 fun (y1 : R_event_Line) =>
 (.call con_event_Line x.b_4 fun (y2 : R_event_Line) =>
 (.ite (!(ieq y1.snd 0))
 (.ret true)
 (.ite (!(ieq y2.snd 0))
 (.ret true)
 (.ret ((seq y1.fst y2.fst) == ((ieq x.a_3.Thread x.b_4.Thread) && ((ieq x.a_3.Kind x.b_4.Kind) && ((ieq x.a_3.Ring x.b_4.Ring) && ((ieq x.a_3.Ticket x.b_4.Ticket) && ((ieq x.a_3.Value x.b_4.Value) && true)))))))))))
theorem sd_w15_EventOne_6 (x : X_w15_EventOne_6) : (tt_w15_EventOne_6 x).Sides :=
  (TT.s_call fun _ => (TT.s_call fun _ => (TT.s_ite TT.s_ret (TT.s_ite TT.s_ret TT.s_ret))))

noncomputable def D_w15_EventOne_6 : Dyn X_w15_EventOne_6 R_w15_EventOne := .of tt_w15_EventOne_6
theorem ok_w15_EventOne_6 : LabOK J_w15_EventOne S_w15_EventOne_6 D_w15_EventOne_6 :=
  lab_ok mixed_ok labs_nil 4000 (fun x => by kernel_rfl) sd_w15_EventOne_6
noncomputable def tt_w15_EventOne_3 (x : X_w15_EventOne_3) : TT Tryd.prog R_w15_EventOne :=
 (.need (true && (room ((0 : Nat) + x.l_2.n) 40)) <|
 (.need (true && (room (((0 : Nat) + x.l_2.n) + 1) 40)) <|
 (.need (true && (room ((0 : Nat) + x.l_2.n) 40)) <|
 (.need (true && (room (((0 : Nat) + x.l_2.n) + 1) 40)) <|
 (.call con_event_Same ((Sl.mk (cond (Nat.beq 1 0) (cond (Nat.beq x.l_2.n 0) false false) false) (((0 : Nat) + x.l_2.n) + 1) (fun i1 => (TApi_Event.mk (cond (Nat.blt i1 ((0 : Nat) + x.l_2.n)) (cond (Nat.blt i1 0) (0 : Int) (x.l_2.get (i1 - 0)).Thread) x.a_3.Thread) (cond (Nat.blt i1 ((0 : Nat) + x.l_2.n)) (cond (Nat.blt i1 0) (0 : Int) (x.l_2.get (i1 - 0)).Kind) x.a_3.Kind) (cond (Nat.blt i1 ((0 : Nat) + x.l_2.n)) (cond (Nat.blt i1 0) (0 : Int) (x.l_2.get (i1 - 0)).Ring) x.a_3.Ring) (cond (Nat.blt i1 ((0 : Nat) + x.l_2.n)) (cond (Nat.blt i1 0) (0 : Int) (x.l_2.get (i1 - 0)).Ticket) x.a_3.Ticket) (cond (Nat.blt i1 ((0 : Nat) + x.l_2.n)) (cond (Nat.blt i1 0) (0 : Int) (x.l_2.get (i1 - 0)).Value) x.a_3.Value)))), (Sl.mk (cond (Nat.beq 1 0) (cond (Nat.beq x.l_2.n 0) false false) false) (((0 : Nat) + x.l_2.n) + 1) (fun i1 => (TApi_Event.mk (cond (Nat.blt i1 ((0 : Nat) + x.l_2.n)) (cond (Nat.blt i1 0) (0 : Int) (x.l_2.get (i1 - 0)).Thread) x.b_4.Thread) (cond (Nat.blt i1 ((0 : Nat) + x.l_2.n)) (cond (Nat.blt i1 0) (0 : Int) (x.l_2.get (i1 - 0)).Kind) x.b_4.Kind) (cond (Nat.blt i1 ((0 : Nat) + x.l_2.n)) (cond (Nat.blt i1 0) (0 : Int) (x.l_2.get (i1 - 0)).Ring) x.b_4.Ring) (cond (Nat.blt i1 ((0 : Nat) + x.l_2.n)) (cond (Nat.blt i1 0) (0 : Int) (x.l_2.get (i1 - 0)).Ticket) x.b_4.Ticket) (cond (Nat.blt i1 ((0 : Nat) + x.l_2.n)) (cond (Nat.blt i1 0) (0 : Int) (x.l_2.get (i1 - 0)).Value) x.b_4.Value))))) fun (y1 : R_event_Same) =>
 (.ite (!(y1 == ((ieq x.a_3.Thread x.b_4.Thread) && ((ieq x.a_3.Kind x.b_4.Kind) && ((ieq x.a_3.Ring x.b_4.Ring) && ((ieq x.a_3.Ticket x.b_4.Ticket) && ((ieq x.a_3.Value x.b_4.Value) && true)))))))
 (.ret false)
 (.call con_event_Same ((Sl.mk (cond (Nat.beq 1 0) (cond (Nat.beq x.l_2.n 0) false false) false) (((0 : Nat) + x.l_2.n) + 1) (fun i2 => (TApi_Event.mk (cond (Nat.blt i2 ((0 : Nat) + x.l_2.n)) (cond (Nat.blt i2 0) (0 : Int) (x.l_2.get (i2 - 0)).Thread) x.a_3.Thread) (cond (Nat.blt i2 ((0 : Nat) + x.l_2.n)) (cond (Nat.blt i2 0) (0 : Int) (x.l_2.get (i2 - 0)).Kind) x.a_3.Kind) (cond (Nat.blt i2 ((0 : Nat) + x.l_2.n)) (cond (Nat.blt i2 0) (0 : Int) (x.l_2.get (i2 - 0)).Ring) x.a_3.Ring) (cond (Nat.blt i2 ((0 : Nat) + x.l_2.n)) (cond (Nat.blt i2 0) (0 : Int) (x.l_2.get (i2 - 0)).Ticket) x.a_3.Ticket) (cond (Nat.blt i2 ((0 : Nat) + x.l_2.n)) (cond (Nat.blt i2 0) (0 : Int) (x.l_2.get (i2 - 0)).Value) x.a_3.Value)))), x.l_2) fun (y2 : R_event_Same) =>
 (.ite y2
 (.ret false)
 (.call con_event_Same (x.l_2, x.l_2) fun (y3 : R_event_Same) =>
 (.ite (!y3)
 (.ret false)
 (.jump S_w15_EventOne_6 D_w15_EventOne_6 (X_w15_EventOne_6.mk x.a_3 x.b_4))))))))))))
theorem sd_w15_EventOne_3 (x : X_w15_EventOne_3) : (tt_w15_EventOne_3 x).Sides :=
  (TT.s_need (TT.s_need (TT.s_need (TT.s_need (TT.s_call fun _ => (TT.s_ite TT.s_ret (TT.s_call fun _ => (TT.s_ite TT.s_ret (TT.s_call fun _ => (TT.s_ite TT.s_ret TT.s_jump))))))))))

noncomputable def D_w15_EventOne_3 : Dyn X_w15_EventOne_3 R_w15_EventOne := .of tt_w15_EventOne_3
theorem ok_w15_EventOne_3 : LabOK J_w15_EventOne S_w15_EventOne_3 D_w15_EventOne_3 :=
  lab_ok mixed_ok (labs_cons2 ok_w15_EventOne_6 rfl labs_nil) 4000 (fun x => by kernel_rfl) sd_w15_EventOne_3
noncomputable def tt_w15_EventOne (x : X_w15_EventOne) : TT Tryd.prog R_w15_EventOne :=
 (.call con_w15_awake PUnit.unit fun (y1 : R_w15_awake) =>
 (.ite (!y1)
 (.call con_w15_awake PUnit.unit fun (y2 : R_w15_awake) =>
 (.ret y2))
 (.ite (ilt 100 ((x.snd.snd.n : Nat) : Int))
 (.call con_w15_awake PUnit.unit fun (y2 : R_w15_awake) =>
 (.ret y2))
 (.jump S_w15_EventOne_3 D_w15_EventOne_3 (X_w15_EventOne_3.mk x.snd.snd x.fst x.snd.fst)))))
theorem sd_w15_EventOne (x : X_w15_EventOne) : (tt_w15_EventOne x).Sides :=
  (TT.s_call fun _ => (TT.s_ite (TT.s_call fun _ => TT.s_ret) (TT.s_ite (TT.s_call fun _ => TT.s_ret) TT.s_jump)))

noncomputable def D_w15_EventOne : Dyn X_w15_EventOne R_w15_EventOne := .of tt_w15_EventOne
noncomputable def con_w15_EventOne : Con Tryd.prog :=
  mkCon 7 J_w15_EventOne S_w15_EventOne D_w15_EventOne D_w15_EventOne (fun _ _ h => h) 3 0 [.any, .any, hsl_TApi_Event] (by kernel_rfl) (by kernel_rfl) (by kernel_rfl) (lab_ok mixed_ok (labs_cons2 ok_w15_EventOne_6 rfl (labs_cons2 ok_w15_EventOne_3 rfl labs_nil)) 4000 (fun x => by kernel_rfl) sd_w15_EventOne) rfl rfl (fun _ => rfl) (by kernel_rfl) rfl (fun _ => rfl) (fun x y _ => by kernel_rfl)

/-! rondeaulaw15.EventParts (w15_EventParts) -/
abbrev X_w15_EventParts : Type := (Sl TApi_Event)
abbrev R_w15_EventParts : Type := Bool
noncomputable def J_w15_EventParts : Job Tryd.prog :=
  job Tryd.prog Tryd.f8 88 [(64, 1), (68, 1)] [] [] [] [.any] [] [con_event_Of, con_w15_awake] R_w15_EventParts [] fun y => [V.bool y]
noncomputable def S_w15_EventParts : LabS :=
  lab0 Tryd.f8 1 0 X_w15_EventParts (fun x => [esl_TApi_Event x]) fun l => (dsl_TApi_Event (at_ l 0))
structure X_w15_EventParts_3 where
  l_0 : (Sl TApi_Event)
noncomputable def S_w15_EventParts_3 : LabS :=
  labAt Tryd.f8 3 [(0, hsl_TApi_Event)] [] [] X_w15_EventParts_3 (fun x => [esl_TApi_Event x.l_0]) fun l => ⟨dsl_TApi_Event (at_ l 0)⟩
structure X_w15_EventParts_5 where
  l_0 : (Sl TApi_Event)
  n_3 : Int
  q_19 : Int
noncomputable def S_w15_EventParts_5 : LabS :=
  labAt Tryd.f8 5 [(0, hsl_TApi_Event), (3, .any), (19, .any)] [] [] X_w15_EventParts_5 (fun x => [esl_TApi_Event x.l_0, (V.int .i64) x.n_3, (V.int .i64) x.q_19]) fun l => ⟨dsl_TApi_Event (at_ l 0), dI (at_ l 1), dI (at_ l 2)⟩
structure X_w15_EventParts_9 where
  l_0 : (Sl TApi_Event)
  n_3 : Int
  t_4 : Int
  at_5 : (Sl Int)
  q_19 : Int
  q_25 : (Sl Int)
  q_26 : Int
  q_27 : Int
noncomputable def S_w15_EventParts_9 : LabS :=
  labAt Tryd.f8 9 [(0, hsl_TApi_Event), (3, .any), (4, .any), (5, hsl_i64), (19, .any), (25, hsl_i64), (26, .any), (27, .any)] [] [] X_w15_EventParts_9 (fun x => [esl_TApi_Event x.l_0, (V.int .i64) x.n_3, (V.int .i64) x.t_4, esl_i64 x.at_5, (V.int .i64) x.q_19, esl_i64 x.q_25, (V.int .i64) x.q_26, (V.int .i64) x.q_27]) fun l => ⟨dsl_TApi_Event (at_ l 0), dI (at_ l 1), dI (at_ l 2), dsl_i64 (at_ l 3), dI (at_ l 4), dsl_i64 (at_ l 5), dI (at_ l 6), dI (at_ l 7)⟩
structure X_w15_EventParts_13 where
  l_0 : (Sl TApi_Event)
  n_3 : Int
  t_4 : Int
  at_5 : (Sl Int)
  q_19 : Int
  q_25 : (Sl Int)
  q_26 : Int
  q_27 : Int
noncomputable def S_w15_EventParts_13 : LabS :=
  labAt Tryd.f8 13 [(0, hsl_TApi_Event), (3, .any), (4, .any), (5, hsl_i64), (19, .any), (25, hsl_i64), (26, .any), (27, .any)] [] [] X_w15_EventParts_13 (fun x => [esl_TApi_Event x.l_0, (V.int .i64) x.n_3, (V.int .i64) x.t_4, esl_i64 x.at_5, (V.int .i64) x.q_19, esl_i64 x.q_25, (V.int .i64) x.q_26, (V.int .i64) x.q_27]) fun l => ⟨dsl_TApi_Event (at_ l 0), dI (at_ l 1), dI (at_ l 2), dsl_i64 (at_ l 3), dI (at_ l 4), dsl_i64 (at_ l 5), dI (at_ l 6), dI (at_ l 7)⟩
structure X_w15_EventParts_14 where
  l_0 : (Sl TApi_Event)
  n_3 : Int
  at_5 : (Sl Int)
  q_19 : Int
noncomputable def S_w15_EventParts_14 : LabS :=
  labAt Tryd.f8 14 [(0, hsl_TApi_Event), (3, .any), (5, hsl_i64), (19, .any)] [] [] X_w15_EventParts_14 (fun x => [esl_TApi_Event x.l_0, (V.int .i64) x.n_3, esl_i64 x.at_5, (V.int .i64) x.q_19]) fun l => ⟨dsl_TApi_Event (at_ l 0), dI (at_ l 1), dsl_i64 (at_ l 2), dI (at_ l 3)⟩
structure X_w15_EventParts_15 where
  l_0 : (Sl TApi_Event)
  n_3 : Int
  q_19 : Int
noncomputable def S_w15_EventParts_15 : LabS :=
  labAt Tryd.f8 15 [(0, hsl_TApi_Event), (3, .any), (19, .any)] [] [] X_w15_EventParts_15 (fun x => [esl_TApi_Event x.l_0, (V.int .i64) x.n_3, (V.int .i64) x.q_19]) fun l => ⟨dsl_TApi_Event (at_ l 0), dI (at_ l 1), dI (at_ l 2)⟩
structure X_w15_EventParts_16 where
  l_0 : (Sl TApi_Event)
  n_3 : Int
noncomputable def S_w15_EventParts_16 : LabS :=
  labAt Tryd.f8 16 [(0, hsl_TApi_Event), (3, .any)] [] [] X_w15_EventParts_16 (fun x => [esl_TApi_Event x.l_0, (V.int .i64) x.n_3]) fun l => ⟨dsl_TApi_Event (at_ l 0), dI (at_ l 1)⟩
structure X_w15_EventParts_18 where
  n_3 : Int
  in_8 : Int
  q_68 : (Sl TApi_Event)
  q_69 : Int
  q_70 : Int
noncomputable def S_w15_EventParts_18 : LabS :=
  labAt Tryd.f8 18 [(3, .any), (8, .any), (68, hsl_TApi_Event), (69, .any), (70, .any)] [] [] X_w15_EventParts_18 (fun x => [(V.int .i64) x.n_3, (V.int .i64) x.in_8, esl_TApi_Event x.q_68, (V.int .i64) x.q_69, (V.int .i64) x.q_70]) fun l => ⟨dI (at_ l 0), dI (at_ l 1), dsl_TApi_Event (at_ l 2), dI (at_ l 3), dI (at_ l 4)⟩
structure X_w15_EventParts_22 where
  n_3 : Int
  in_8 : Int
  q_68 : (Sl TApi_Event)
  q_69 : Int
  q_70 : Int
noncomputable def S_w15_EventParts_22 : LabS :=
  labAt Tryd.f8 22 [(3, .any), (8, .any), (68, hsl_TApi_Event), (69, .any), (70, .any)] [] [] X_w15_EventParts_22 (fun x => [(V.int .i64) x.n_3, (V.int .i64) x.in_8, esl_TApi_Event x.q_68, (V.int .i64) x.q_69, (V.int .i64) x.q_70]) fun l => ⟨dI (at_ l 0), dI (at_ l 1), dsl_TApi_Event (at_ l 2), dI (at_ l 3), dI (at_ l 4)⟩
noncomputable def tt_w15_EventParts_22 (D_w15_EventParts_18 : Dyn X_w15_EventParts_18 R_w15_EventParts) (x : X_w15_EventParts_22) : TT Tryd.prog R_w15_EventParts :=
 (.jump S_w15_EventParts_18 D_w15_EventParts_18 (X_w15_EventParts_18.mk x.n_3 x.in_8 x.q_68 x.q_69 (IntKind.i64.wrap (x.q_70 + 1))))
theorem sd_w15_EventParts_22 (D_w15_EventParts_18 : Dyn X_w15_EventParts_18 R_w15_EventParts) (x : X_w15_EventParts_22) : (tt_w15_EventParts_22 D_w15_EventParts_18 x).Sides :=
  TT.s_jump

noncomputable def D_w15_EventParts_22 (D_w15_EventParts_18 : Dyn X_w15_EventParts_18 R_w15_EventParts) : Dyn X_w15_EventParts_22 R_w15_EventParts := .of (tt_w15_EventParts_22 D_w15_EventParts_18)
theorem ok_w15_EventParts_22 (D_w15_EventParts_18 : Dyn X_w15_EventParts_18 R_w15_EventParts) (h_18 : LabOK J_w15_EventParts S_w15_EventParts_18 D_w15_EventParts_18) : LabOK J_w15_EventParts S_w15_EventParts_22 (D_w15_EventParts_22 D_w15_EventParts_18) :=
  lab_ok mixed_ok (labs_cons2 h_18 rfl labs_nil) 4000 (fun x => by kernel_rfl) (sd_w15_EventParts_22 D_w15_EventParts_18)
noncomputable def tt_w15_EventParts_18 (D_w15_EventParts_18 : Dyn X_w15_EventParts_18 R_w15_EventParts) (x : X_w15_EventParts_18) : TT Tryd.prog R_w15_EventParts :=
 (.ite (ilt x.q_70 x.q_69)
 (.need (inb x.q_70 x.q_68.n) <|
 (.ite (ile 0 (x.q_68.get (Int.toNat x.q_70)).Thread)
 (.ite (ilt (x.q_68.get (Int.toNat x.q_70)).Thread 8)
 (.jump S_w15_EventParts_22 (D_w15_EventParts_22 D_w15_EventParts_18) (X_w15_EventParts_22.mk x.n_3 (IntKind.i64.wrap (x.in_8 + 1)) x.q_68 x.q_69 x.q_70))
 (.jump S_w15_EventParts_22 (D_w15_EventParts_22 D_w15_EventParts_18) (X_w15_EventParts_22.mk x.n_3 x.in_8 x.q_68 x.q_69 x.q_70)))
 (.jump S_w15_EventParts_22 (D_w15_EventParts_22 D_w15_EventParts_18) (X_w15_EventParts_22.mk x.n_3 x.in_8 x.q_68 x.q_69 x.q_70))))
 (.ret (ieq x.n_3 x.in_8)))
theorem sd_w15_EventParts_18 (D_w15_EventParts_18 : Dyn X_w15_EventParts_18 R_w15_EventParts) (x : X_w15_EventParts_18) : (tt_w15_EventParts_18 D_w15_EventParts_18 x).Sides :=
  (TT.s_ite (TT.s_need (TT.s_ite (TT.s_ite TT.s_jump TT.s_jump) TT.s_jump)) TT.s_ret)

noncomputable def D_w15_EventParts_18 : Dyn X_w15_EventParts_18 R_w15_EventParts := Dyn.loop tt_w15_EventParts_18
theorem ok_w15_EventParts_18 : LabOK J_w15_EventParts S_w15_EventParts_18 D_w15_EventParts_18 :=
  loop_ok fun D_w15_EventParts_18 h_18 => lab_ok mixed_ok (labs_cons2 h_18 rfl (labs_cons2 (ok_w15_EventParts_22 D_w15_EventParts_18 h_18) rfl labs_nil)) 4000 (fun x => by kernel_rfl) (sd_w15_EventParts_18 D_w15_EventParts_18)
noncomputable def tt_w15_EventParts_16 (x : X_w15_EventParts_16) : TT Tryd.prog R_w15_EventParts :=
 (.jump S_w15_EventParts_18 D_w15_EventParts_18 (X_w15_EventParts_18.mk x.n_3 0 x.l_0 ((x.l_0.n : Nat) : Int) 0))
theorem sd_w15_EventParts_16 (x : X_w15_EventParts_16) : (tt_w15_EventParts_16 x).Sides :=
  TT.s_jump

noncomputable def D_w15_EventParts_16 : Dyn X_w15_EventParts_16 R_w15_EventParts := .of tt_w15_EventParts_16
theorem ok_w15_EventParts_16 : LabOK J_w15_EventParts S_w15_EventParts_16 D_w15_EventParts_16 :=
  lab_ok mixed_ok (labs_cons2 ok_w15_EventParts_18 rfl labs_nil) 4000 (fun x => by kernel_rfl) sd_w15_EventParts_16
noncomputable def tt_w15_EventParts_15 (D_w15_EventParts_5 : Dyn X_w15_EventParts_5 R_w15_EventParts) (x : X_w15_EventParts_15) : TT Tryd.prog R_w15_EventParts :=
 (.jump S_w15_EventParts_5 D_w15_EventParts_5 (X_w15_EventParts_5.mk x.l_0 x.n_3 (IntKind.i64.wrap (x.q_19 + 1))))
theorem sd_w15_EventParts_15 (D_w15_EventParts_5 : Dyn X_w15_EventParts_5 R_w15_EventParts) (x : X_w15_EventParts_15) : (tt_w15_EventParts_15 D_w15_EventParts_5 x).Sides :=
  TT.s_jump

noncomputable def D_w15_EventParts_15 (D_w15_EventParts_5 : Dyn X_w15_EventParts_5 R_w15_EventParts) : Dyn X_w15_EventParts_15 R_w15_EventParts := .of (tt_w15_EventParts_15 D_w15_EventParts_5)
theorem ok_w15_EventParts_15 (D_w15_EventParts_5 : Dyn X_w15_EventParts_5 R_w15_EventParts) (h_5 : LabOK J_w15_EventParts S_w15_EventParts_5 D_w15_EventParts_5) : LabOK J_w15_EventParts S_w15_EventParts_15 (D_w15_EventParts_15 D_w15_EventParts_5) :=
  lab_ok mixed_ok (labs_cons2 h_5 rfl (labs_cons2 ok_w15_EventParts_18 rfl (labs_cons2 ok_w15_EventParts_16 rfl labs_nil))) 4000 (fun x => by kernel_rfl) (sd_w15_EventParts_15 D_w15_EventParts_5)
noncomputable def tt_w15_EventParts_14 (D_w15_EventParts_5 : Dyn X_w15_EventParts_5 R_w15_EventParts) (x : X_w15_EventParts_14) : TT Tryd.prog R_w15_EventParts :=
 (.jump S_w15_EventParts_15 (D_w15_EventParts_15 D_w15_EventParts_5) (X_w15_EventParts_15.mk x.l_0 (IntKind.i64.wrap (x.n_3 + ((x.at_5.n : Nat) : Int))) x.q_19))
theorem sd_w15_EventParts_14 (D_w15_EventParts_5 : Dyn X_w15_EventParts_5 R_w15_EventParts) (x : X_w15_EventParts_14) : (tt_w15_EventParts_14 D_w15_EventParts_5 x).Sides :=
  TT.s_jump

noncomputable def D_w15_EventParts_14 (D_w15_EventParts_5 : Dyn X_w15_EventParts_5 R_w15_EventParts) : Dyn X_w15_EventParts_14 R_w15_EventParts := .of (tt_w15_EventParts_14 D_w15_EventParts_5)
theorem ok_w15_EventParts_14 (D_w15_EventParts_5 : Dyn X_w15_EventParts_5 R_w15_EventParts) (h_5 : LabOK J_w15_EventParts S_w15_EventParts_5 D_w15_EventParts_5) : LabOK J_w15_EventParts S_w15_EventParts_14 (D_w15_EventParts_14 D_w15_EventParts_5) :=
  lab_ok mixed_ok (labs_cons2 h_5 rfl (labs_cons2 ok_w15_EventParts_18 rfl (labs_cons2 ok_w15_EventParts_16 rfl (labs_cons2 (ok_w15_EventParts_15 D_w15_EventParts_5 h_5) rfl labs_nil)))) 4000 (fun x => by kernel_rfl) (sd_w15_EventParts_14 D_w15_EventParts_5)
noncomputable def tt_w15_EventParts_13 (D_w15_EventParts_5 : Dyn X_w15_EventParts_5 R_w15_EventParts) (D_w15_EventParts_9 : Dyn X_w15_EventParts_9 R_w15_EventParts) (x : X_w15_EventParts_13) : TT Tryd.prog R_w15_EventParts :=
 (.jump S_w15_EventParts_9 D_w15_EventParts_9 (X_w15_EventParts_9.mk x.l_0 x.n_3 x.t_4 x.at_5 x.q_19 x.q_25 x.q_26 (IntKind.i64.wrap (x.q_27 + 1))))
theorem sd_w15_EventParts_13 (D_w15_EventParts_5 : Dyn X_w15_EventParts_5 R_w15_EventParts) (D_w15_EventParts_9 : Dyn X_w15_EventParts_9 R_w15_EventParts) (x : X_w15_EventParts_13) : (tt_w15_EventParts_13 D_w15_EventParts_5 D_w15_EventParts_9 x).Sides :=
  TT.s_jump

noncomputable def D_w15_EventParts_13 (D_w15_EventParts_5 : Dyn X_w15_EventParts_5 R_w15_EventParts) (D_w15_EventParts_9 : Dyn X_w15_EventParts_9 R_w15_EventParts) : Dyn X_w15_EventParts_13 R_w15_EventParts := .of (tt_w15_EventParts_13 D_w15_EventParts_5 D_w15_EventParts_9)
theorem ok_w15_EventParts_13 (D_w15_EventParts_5 : Dyn X_w15_EventParts_5 R_w15_EventParts) (D_w15_EventParts_9 : Dyn X_w15_EventParts_9 R_w15_EventParts) (h_5 : LabOK J_w15_EventParts S_w15_EventParts_5 D_w15_EventParts_5) (h_9 : LabOK J_w15_EventParts S_w15_EventParts_9 D_w15_EventParts_9) : LabOK J_w15_EventParts S_w15_EventParts_13 (D_w15_EventParts_13 D_w15_EventParts_5 D_w15_EventParts_9) :=
  lab_ok mixed_ok (labs_cons2 h_5 rfl (labs_cons2 h_9 rfl (labs_cons2 ok_w15_EventParts_18 rfl (labs_cons2 ok_w15_EventParts_16 rfl (labs_cons2 (ok_w15_EventParts_15 D_w15_EventParts_5 h_5) rfl (labs_cons2 (ok_w15_EventParts_14 D_w15_EventParts_5 h_5) rfl labs_nil)))))) 4000 (fun x => by kernel_rfl) (sd_w15_EventParts_13 D_w15_EventParts_5 D_w15_EventParts_9)
noncomputable def tt_w15_EventParts_9 (D_w15_EventParts_5 : Dyn X_w15_EventParts_5 R_w15_EventParts) (D_w15_EventParts_9 : Dyn X_w15_EventParts_9 R_w15_EventParts) (x : X_w15_EventParts_9) : TT Tryd.prog R_w15_EventParts :=
 (.ite (ilt x.q_27 x.q_26)
 (.need (inb x.q_27 x.q_25.n) <|
 (.ite (ilt (x.q_25.get (Int.toNat x.q_27)) 0)
 (.ret false)
 (.ite (ile ((x.l_0.n : Nat) : Int) (x.q_25.get (Int.toNat x.q_27)))
 (.ret false)
 (.need (inb (x.q_25.get (Int.toNat x.q_27)) x.l_0.n) <|
 (.ite (!(ieq (x.l_0.get (Int.toNat (x.q_25.get (Int.toNat x.q_27)))).Thread x.t_4))
 (.ret false)
 (.ite (ilt 0 x.q_27)
 (.need (inb (IntKind.i64.wrap (x.q_27 - 1)) x.at_5.n) <|
 (.ite (ile (x.q_25.get (Int.toNat x.q_27)) (x.at_5.get (Int.toNat (IntKind.i64.wrap (x.q_27 - 1)))))
 (.ret false)
 (.jump S_w15_EventParts_13 (D_w15_EventParts_13 D_w15_EventParts_5 D_w15_EventParts_9) (X_w15_EventParts_13.mk x.l_0 x.n_3 x.t_4 x.at_5 x.q_19 x.q_25 x.q_26 x.q_27))))
 (.jump S_w15_EventParts_13 (D_w15_EventParts_13 D_w15_EventParts_5 D_w15_EventParts_9) (X_w15_EventParts_13.mk x.l_0 x.n_3 x.t_4 x.at_5 x.q_19 x.q_25 x.q_26 x.q_27))))))))
 (.jump S_w15_EventParts_14 (D_w15_EventParts_14 D_w15_EventParts_5) (X_w15_EventParts_14.mk x.l_0 x.n_3 x.at_5 x.q_19)))
theorem sd_w15_EventParts_9 (D_w15_EventParts_5 : Dyn X_w15_EventParts_5 R_w15_EventParts) (D_w15_EventParts_9 : Dyn X_w15_EventParts_9 R_w15_EventParts) (x : X_w15_EventParts_9) : (tt_w15_EventParts_9 D_w15_EventParts_5 D_w15_EventParts_9 x).Sides :=
  (TT.s_ite (TT.s_need (TT.s_ite TT.s_ret (TT.s_ite TT.s_ret (TT.s_need (TT.s_ite TT.s_ret (TT.s_ite (TT.s_need (TT.s_ite TT.s_ret TT.s_jump)) TT.s_jump)))))) TT.s_jump)

noncomputable def D_w15_EventParts_9 (D_w15_EventParts_5 : Dyn X_w15_EventParts_5 R_w15_EventParts) : Dyn X_w15_EventParts_9 R_w15_EventParts := Dyn.loop (tt_w15_EventParts_9 D_w15_EventParts_5)
theorem ok_w15_EventParts_9 (D_w15_EventParts_5 : Dyn X_w15_EventParts_5 R_w15_EventParts) (h_5 : LabOK J_w15_EventParts S_w15_EventParts_5 D_w15_EventParts_5) : LabOK J_w15_EventParts S_w15_EventParts_9 (D_w15_EventParts_9 D_w15_EventParts_5) :=
  loop_ok fun D_w15_EventParts_9 h_9 => lab_ok mixed_ok (labs_cons2 h_5 rfl (labs_cons2 h_9 rfl (labs_cons2 ok_w15_EventParts_18 rfl (labs_cons2 ok_w15_EventParts_16 rfl (labs_cons2 (ok_w15_EventParts_15 D_w15_EventParts_5 h_5) rfl (labs_cons2 (ok_w15_EventParts_14 D_w15_EventParts_5 h_5) rfl (labs_cons2 (ok_w15_EventParts_13 D_w15_EventParts_5 D_w15_EventParts_9 h_5 h_9) rfl labs_nil))))))) 4000 (fun x => by kernel_rfl) (sd_w15_EventParts_9 D_w15_EventParts_5 D_w15_EventParts_9)
noncomputable def tt_w15_EventParts_5 (D_w15_EventParts_5 : Dyn X_w15_EventParts_5 R_w15_EventParts) (x : X_w15_EventParts_5) : TT Tryd.prog R_w15_EventParts :=
 (.ite (ilt x.q_19 8)
 (.call con_event_Of (x.l_0, x.q_19) fun (y2 : R_event_Of) =>
 (.jump S_w15_EventParts_9 (D_w15_EventParts_9 D_w15_EventParts_5) (X_w15_EventParts_9.mk x.l_0 x.n_3 x.q_19 y2 x.q_19 y2 ((y2.n : Nat) : Int) 0)))
 (.jump S_w15_EventParts_16 D_w15_EventParts_16 (X_w15_EventParts_16.mk x.l_0 x.n_3)))
theorem sd_w15_EventParts_5 (D_w15_EventParts_5 : Dyn X_w15_EventParts_5 R_w15_EventParts) (x : X_w15_EventParts_5) : (tt_w15_EventParts_5 D_w15_EventParts_5 x).Sides :=
  (TT.s_ite (TT.s_call fun _ => TT.s_jump) TT.s_jump)

noncomputable def D_w15_EventParts_5 : Dyn X_w15_EventParts_5 R_w15_EventParts := Dyn.loop tt_w15_EventParts_5
theorem ok_w15_EventParts_5 : LabOK J_w15_EventParts S_w15_EventParts_5 D_w15_EventParts_5 :=
  loop_ok fun D_w15_EventParts_5 h_5 => lab_ok mixed_ok (labs_cons2 h_5 rfl (labs_cons2 ok_w15_EventParts_18 rfl (labs_cons2 ok_w15_EventParts_16 rfl (labs_cons2 (ok_w15_EventParts_15 D_w15_EventParts_5 h_5) rfl (labs_cons2 (ok_w15_EventParts_14 D_w15_EventParts_5 h_5) rfl (labs_cons2 (ok_w15_EventParts_9 D_w15_EventParts_5 h_5) rfl labs_nil)))))) 4000 (fun x => by kernel_rfl) (sd_w15_EventParts_5 D_w15_EventParts_5)
noncomputable def tt_w15_EventParts_3 (x : X_w15_EventParts_3) : TT Tryd.prog R_w15_EventParts :=
 (.jump S_w15_EventParts_5 D_w15_EventParts_5 (X_w15_EventParts_5.mk x.l_0 0 0))
theorem sd_w15_EventParts_3 (x : X_w15_EventParts_3) : (tt_w15_EventParts_3 x).Sides :=
  TT.s_jump

noncomputable def D_w15_EventParts_3 : Dyn X_w15_EventParts_3 R_w15_EventParts := .of tt_w15_EventParts_3
theorem ok_w15_EventParts_3 : LabOK J_w15_EventParts S_w15_EventParts_3 D_w15_EventParts_3 :=
  lab_ok mixed_ok (labs_cons2 ok_w15_EventParts_18 rfl (labs_cons2 ok_w15_EventParts_16 rfl (labs_cons2 ok_w15_EventParts_5 rfl labs_nil))) 4000 (fun x => by kernel_rfl) sd_w15_EventParts_3
noncomputable def tt_w15_EventParts (x : X_w15_EventParts) : TT Tryd.prog R_w15_EventParts :=
 (.call con_w15_awake PUnit.unit fun (y1 : R_w15_awake) =>
 (.ite (!y1)
 (.call con_w15_awake PUnit.unit fun (y2 : R_w15_awake) =>
 (.ret y2))
 (.ite (ilt 200 ((x.n : Nat) : Int))
 (.call con_w15_awake PUnit.unit fun (y2 : R_w15_awake) =>
 (.ret y2))
 (.jump S_w15_EventParts_3 D_w15_EventParts_3 (X_w15_EventParts_3.mk x)))))
theorem sd_w15_EventParts (x : X_w15_EventParts) : (tt_w15_EventParts x).Sides :=
  (TT.s_call fun _ => (TT.s_ite (TT.s_call fun _ => TT.s_ret) (TT.s_ite (TT.s_call fun _ => TT.s_ret) TT.s_jump)))

noncomputable def D_w15_EventParts : Dyn X_w15_EventParts R_w15_EventParts := .of tt_w15_EventParts
noncomputable def con_w15_EventParts : Con Tryd.prog :=
  mkCon 8 J_w15_EventParts S_w15_EventParts D_w15_EventParts D_w15_EventParts (fun _ _ h => h) 1 0 [hsl_TApi_Event] (by kernel_rfl) (by kernel_rfl) (by kernel_rfl) (lab_ok mixed_ok (labs_cons2 ok_w15_EventParts_18 rfl (labs_cons2 ok_w15_EventParts_16 rfl (labs_cons2 ok_w15_EventParts_5 rfl (labs_cons2 ok_w15_EventParts_3 rfl labs_nil)))) 4000 (fun x => by kernel_rfl) sd_w15_EventParts) rfl rfl (fun _ => rfl) (by kernel_rfl) rfl (fun _ => rfl) (fun x y _ => by kernel_rfl)
end Go.Proofs.YtbmbndfmpndmfaaDoor
