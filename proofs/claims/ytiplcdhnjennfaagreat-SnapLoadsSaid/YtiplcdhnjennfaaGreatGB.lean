/- What functions of the program come to, part B: no statement is proved here. -/
import Derived.Test.YtiplcdhnjennfaaGreatGA
namespace Go.Proofs.YtiplcdhnjennfaaGreat
open Go Go.Vm Go.Proofs
set_option maxRecDepth 100000
/-! ring.Load (ring_Load) -/
abbrev X_ring_Load : Type := TApi_Ring × TApi_RingState
abbrev R_ring_Load : Type := (Bx TRing_Ring) × Int
noncomputable def J_ring_Load : Job Tryz.prog :=
  job Tryz.prog Tryz.f75 113 [(2, 3), (3, 3), (13, 1), (21, 1), (57, 1), (112, 1)] [(7, [.open_ 6]), (12, [.close (.loc 72 0)]), (14, [.close (.loc 72 0)]), (15, [.close (.loc 72 0)]), (16, [.close (.loc 72 0)]), (17, [.close (.loc 72 0)]), (18, [.close (.loc 72 0)]), (19, [.close (.loc 72 0)]), (20, [.close (.loc 72 0)])] [] [.close (.loc 72 0), .shut 4] [hbox_TRing_Ring, .any] [] [con_ring_New, con_ring_Ring_stands, con_slices_Clone_uint64_w0, con_slots_Load] R_ring_Load [(9, [⟨.loc 72 0, .loc 6 1, [.fld 0 0, .fld 1 1], none, none⟩]), (13, [⟨.loc 72 0, .loc 6 1, [.fld 0 0, .fld 1 1], none, none⟩])] fun y => [V.tup (V.cons (ebox_TRing_Ring y.1) (V.cons ((V.int .i64) y.2) (V.unit)))]
noncomputable def S_ring_Load : LabS :=
  lab0 Tryz.f75 2 0 X_ring_Load (fun x => [e_TApi_Ring x.1, e_TApi_RingState x.2]) fun l => (d_TApi_Ring (at_ l 0), d_TApi_RingState (at_ l 1))
structure X_ring_Load_7 where
  s_3 : TApi_RingState
  l_8 : (Bx TSlots_Slots)
  n_6 : TRing_Ring
noncomputable def S_ring_Load_7 : LabS :=
  labAt Tryz.f75 7 [(3, .any), (6, .any), (8, hbox_TSlots_Slots)] [] [(.loc 6 1, sh_TRing_Ring)] X_ring_Load_7 (fun x => [(eVp e_TApi_RingState) x.s_3, (V.ptr (.loc 6 1) []), ebox_TSlots_Slots x.l_8, e_TRing_Ring x.n_6]) fun l => ⟨(dVp d_TApi_RingState) (at_ l 0), dbox_TSlots_Slots (at_ l 2), d_TRing_Ring (at_ l 3)⟩
structure X_ring_Load_9 where
  s_3 : TApi_RingState
  q_73 : Int
  q_74 : Int
  n_6 : TRing_Ring
noncomputable def S_ring_Load_9 : LabS :=
  labAt Tryz.f75 9 [(3, .any), (6, .any), (72, .any), (73, .any), (74, .any)] [] [(.loc 6 1, sh_TRing_Ring), (.loc 72 0, .any)] X_ring_Load_9 (fun x => [(eVp e_TApi_RingState) x.s_3, (V.ptr (.loc 6 1) []), (V.own (.loc 72 0) [] 1 x.n_6.cursors.heads.n 0 x.n_6.cursors.heads.n), (V.int .i64) x.q_73, (V.int .i64) x.q_74, V.cons (V.cons ((V.int .u64) x.n_6.cursors.tail) (V.cons (V.lent (.loc 72 0) 35 1 x.n_6.cursors.heads.nil x.n_6.cursors.heads.n) (V.unit))) (V.cons (ebox_TSlots_Slots x.n_6.s) (V.cons ((V.int .u64) x.n_6.most) (V.cons (V.bool x.n_6.closed) (V.unit)))), (V.arr 1 x.n_6.cursors.heads.n fun i => (V.int .u64) (x.n_6.cursors.heads.get i))]) fun l => ⟨(dVp d_TApi_RingState) (at_ l 0), dI (at_ l 3), dI (at_ l 4), { d_TRing_Ring (at_ l 5) with cursors.heads := ⟨(dLn (fd (fd (at_ l 5) 0) 1)).nil, (dLn (fd (fd (at_ l 5) 0) 1)).n, (dAr dI (at_ l 6)).get⟩ }⟩
structure X_ring_Load_13 where
  s_3 : TApi_RingState
  q_73 : Int
  q_74 : Int
  n_6 : TRing_Ring
noncomputable def S_ring_Load_13 : LabS :=
  labAt Tryz.f75 13 [(3, .any), (6, .any), (72, .any), (73, .any), (74, .any)] [] [(.loc 6 1, sh_TRing_Ring), (.loc 72 0, .any)] X_ring_Load_13 (fun x => [(eVp e_TApi_RingState) x.s_3, (V.ptr (.loc 6 1) []), (V.own (.loc 72 0) [] 1 x.n_6.cursors.heads.n 0 x.n_6.cursors.heads.n), (V.int .i64) x.q_73, (V.int .i64) x.q_74, V.cons (V.cons ((V.int .u64) x.n_6.cursors.tail) (V.cons (V.lent (.loc 72 0) 35 1 x.n_6.cursors.heads.nil x.n_6.cursors.heads.n) (V.unit))) (V.cons (ebox_TSlots_Slots x.n_6.s) (V.cons ((V.int .u64) x.n_6.most) (V.cons (V.bool x.n_6.closed) (V.unit)))), (V.arr 1 x.n_6.cursors.heads.n fun i => (V.int .u64) (x.n_6.cursors.heads.get i))]) fun l => ⟨(dVp d_TApi_RingState) (at_ l 0), dI (at_ l 3), dI (at_ l 4), { d_TRing_Ring (at_ l 5) with cursors.heads := ⟨(dLn (fd (fd (at_ l 5) 0) 1)).nil, (dLn (fd (fd (at_ l 5) 0) 1)).n, (dAr dI (at_ l 6)).get⟩ }⟩
structure X_ring_Load_14 where
  s_3 : TApi_RingState
  n_6 : TRing_Ring
noncomputable def S_ring_Load_14 : LabS :=
  labAt Tryz.f75 14 [(3, .any), (6, .any)] [] [(.loc 6 1, sh_TRing_Ring)] X_ring_Load_14 (fun x => [(eVp e_TApi_RingState) x.s_3, (V.ptr (.loc 6 1) []), e_TRing_Ring x.n_6]) fun l => ⟨(dVp d_TApi_RingState) (at_ l 0), d_TRing_Ring (at_ l 2)⟩
structure X_ring_Load_15 where
  q_101 : (Sl TApi_Slot)
  q_102 : Int
  q_103 : Int
  n_6 : TRing_Ring
noncomputable def S_ring_Load_15 : LabS :=
  labAt Tryz.f75 15 [(6, .any), (101, hsl_TApi_Slot), (102, .any), (103, .any)] [] [(.loc 6 1, sh_TRing_Ring)] X_ring_Load_15 (fun x => [(V.ptr (.loc 6 1) []), esl_TApi_Slot x.q_101, (V.int .i64) x.q_102, (V.int .i64) x.q_103, e_TRing_Ring x.n_6]) fun l => ⟨dsl_TApi_Slot (at_ l 1), dI (at_ l 2), dI (at_ l 3), d_TRing_Ring (at_ l 4)⟩
noncomputable def tt_ring_Load_15 (D_ring_Load_15 : Dyn X_ring_Load_15 R_ring_Load) (x : X_ring_Load_15) : TT Tryz.prog R_ring_Load :=
 (.ite (ilt x.q_103 x.q_102)
  (.need (inb x.q_103 x.q_101.n) <|
  (.call con_ring_Ring_stands ((x.q_101.get (Int.toNat x.q_103)), x.n_6) fun (y2 : R_ring_Ring_stands) =>
  (.ite (!y2)
   (.ret ((Bx.mk true (TRing_Ring.mk (TRing_cursors.mk 0 (Sl.mk true 0 (fun _i3 => (0 : Int)))) (Bx.mk true (TSlots_Slots.mk (Sl.mk true 0 (fun _i3 => (TApi_Slot.mk 0 0 0))) 0)) 0 false)), 3))
   (.jump S_ring_Load_15 D_ring_Load_15 (X_ring_Load_15.mk x.q_101 x.q_102 (IntKind.i64.wrap (x.q_103 + 1)) x.n_6))
  )
  )
  )
  (.ret ((Bx.mk false x.n_6), 0))
 )
theorem sd_ring_Load_15 (D_ring_Load_15 : Dyn X_ring_Load_15 R_ring_Load) (x : X_ring_Load_15) : (tt_ring_Load_15 D_ring_Load_15 x).Sides :=
  (TT.s_ite (TT.s_need (TT.s_call fun _ => (TT.s_ite TT.s_ret TT.s_jump))) TT.s_ret)

noncomputable def D_ring_Load_15 : Dyn X_ring_Load_15 R_ring_Load := Dyn.loop tt_ring_Load_15
theorem ok_ring_Load_15 : LabOK J_ring_Load S_ring_Load_15 D_ring_Load_15 :=
  loop_ok fun D_ring_Load_15 h_15 => lab_ok mixed_ok (labs_cons2 h_15 rfl labs_nil) 4000 (fun x => by kernel_rfl) (sd_ring_Load_15 D_ring_Load_15)
noncomputable def tt_ring_Load_14 (x : X_ring_Load_14) : TT Tryz.prog R_ring_Load :=
 (.jump S_ring_Load_15 D_ring_Load_15 (X_ring_Load_15.mk x.s_3.Slots ((x.s_3.Slots.n : Nat) : Int) 0 x.n_6))
theorem sd_ring_Load_14 (x : X_ring_Load_14) : (tt_ring_Load_14 x).Sides :=
  TT.s_jump

noncomputable def D_ring_Load_14 : Dyn X_ring_Load_14 R_ring_Load := .of tt_ring_Load_14
theorem ok_ring_Load_14 : LabOK J_ring_Load S_ring_Load_14 D_ring_Load_14 :=
  lab_ok mixed_ok (labs_cons2 ok_ring_Load_15 rfl labs_nil) 4000 (fun x => by kernel_rfl) sd_ring_Load_14
noncomputable def tt_ring_Load_13 (D_ring_Load_9 : Dyn X_ring_Load_9 R_ring_Load) (x : X_ring_Load_13) : TT Tryz.prog R_ring_Load :=
 (.jump S_ring_Load_9 D_ring_Load_9 (X_ring_Load_9.mk x.s_3 x.q_73 (IntKind.i64.wrap (x.q_74 + 1)) x.n_6))
theorem sd_ring_Load_13 (D_ring_Load_9 : Dyn X_ring_Load_9 R_ring_Load) (x : X_ring_Load_13) : (tt_ring_Load_13 D_ring_Load_9 x).Sides :=
  TT.s_jump

noncomputable def D_ring_Load_13 (D_ring_Load_9 : Dyn X_ring_Load_9 R_ring_Load) : Dyn X_ring_Load_13 R_ring_Load := .of (tt_ring_Load_13 D_ring_Load_9)
theorem ok_ring_Load_13 (D_ring_Load_9 : Dyn X_ring_Load_9 R_ring_Load) (h_9 : LabOK J_ring_Load S_ring_Load_9 D_ring_Load_9) : LabOK J_ring_Load S_ring_Load_13 (D_ring_Load_13 D_ring_Load_9) :=
  lab_ok mixed_ok (labs_cons2 h_9 rfl (labs_cons2 ok_ring_Load_15 rfl (labs_cons2 ok_ring_Load_14 rfl labs_nil))) 4000 (fun x => by kernel_rfl) (sd_ring_Load_13 D_ring_Load_9)
noncomputable def tt_ring_Load_9 (D_ring_Load_9 : Dyn X_ring_Load_9 R_ring_Load) (x : X_ring_Load_9) : TT Tryz.prog R_ring_Load :=
 (.ite (ilt x.q_74 x.q_73)
  (.need (inb x.q_74 x.n_6.cursors.heads.n) <|
  (.need ((Nat.beq x.n_6.cursors.heads.n x.n_6.cursors.heads.n) && true) <|
  (.ite (ilt x.n_6.cursors.tail (x.n_6.cursors.heads.get ((0 : Nat) + (Int.toNat x.q_74))))
   (.need ((true && true) && (Nat.beq x.n_6.cursors.heads.n x.n_6.cursors.heads.n)) <|
   (.ret ((Bx.mk true (TRing_Ring.mk (TRing_cursors.mk 0 (Sl.mk true 0 (fun _i2 => (0 : Int)))) (Bx.mk true (TSlots_Slots.mk (Sl.mk true 0 (fun _i2 => (TApi_Slot.mk 0 0 0))) 0)) 0 false)), 3))
   )
   (.ite (ilt x.n_6.most (IntKind.u64.wrap (x.n_6.cursors.tail - (x.n_6.cursors.heads.get ((0 : Nat) + (Int.toNat x.q_74))))))
    (.need ((true && true) && (Nat.beq x.n_6.cursors.heads.n x.n_6.cursors.heads.n)) <|
    (.ret ((Bx.mk true (TRing_Ring.mk (TRing_cursors.mk 0 (Sl.mk true 0 (fun _i2 => (0 : Int)))) (Bx.mk true (TSlots_Slots.mk (Sl.mk true 0 (fun _i2 => (TApi_Slot.mk 0 0 0))) 0)) 0 false)), 3))
    )
    (.jump S_ring_Load_13 (D_ring_Load_13 D_ring_Load_9) (X_ring_Load_13.mk x.s_3 x.q_73 x.q_74 x.n_6))
   )
  )
  )
  )
  (.need ((true && true) && (Nat.beq x.n_6.cursors.heads.n x.n_6.cursors.heads.n)) <|
  (.jump S_ring_Load_14 D_ring_Load_14 (X_ring_Load_14.mk x.s_3 x.n_6))
  )
 )
theorem sd_ring_Load_9 (D_ring_Load_9 : Dyn X_ring_Load_9 R_ring_Load) (x : X_ring_Load_9) : (tt_ring_Load_9 D_ring_Load_9 x).Sides :=
  (TT.s_ite (TT.s_need (TT.s_need (TT.s_ite (TT.s_need TT.s_ret) (TT.s_ite (TT.s_need TT.s_ret) TT.s_jump)))) (TT.s_need TT.s_jump))

noncomputable def D_ring_Load_9 : Dyn X_ring_Load_9 R_ring_Load := Dyn.loop tt_ring_Load_9
theorem ok_ring_Load_9 : LabOK J_ring_Load S_ring_Load_9 D_ring_Load_9 :=
  loop_ok fun D_ring_Load_9 h_9 => lab_ok mixed_ok (labs_cons2 h_9 rfl (labs_cons2 ok_ring_Load_15 rfl (labs_cons2 ok_ring_Load_14 rfl (labs_cons2 (ok_ring_Load_13 D_ring_Load_9 h_9) rfl labs_nil)))) 4000 (fun x => by kernel_rfl) (sd_ring_Load_9 D_ring_Load_9)
noncomputable def tt_ring_Load_7 (x : X_ring_Load_7) : TT Tryz.prog R_ring_Load :=
 (.call con_slices_Clone_uint64_w0 x.s_3.Heads fun (y1 : R_slices_Clone_uint64_w0) =>
 (.jump S_ring_Load_9 D_ring_Load_9 (X_ring_Load_9.mk x.s_3 ((y1.n : Nat) : Int) 0 (TRing_Ring.mk (TRing_cursors.mk x.s_3.Tail y1) x.l_8 x.n_6.most x.s_3.Closed)))
 )
theorem sd_ring_Load_7 (x : X_ring_Load_7) : (tt_ring_Load_7 x).Sides :=
  (TT.s_call fun _ => TT.s_jump)

noncomputable def D_ring_Load_7 : Dyn X_ring_Load_7 R_ring_Load := .of tt_ring_Load_7
theorem ok_ring_Load_7 : LabOK J_ring_Load S_ring_Load_7 D_ring_Load_7 :=
  lab_ok mixed_ok (labs_cons2 ok_ring_Load_15 rfl (labs_cons2 ok_ring_Load_14 rfl (labs_cons2 ok_ring_Load_9 rfl labs_nil))) 4000 (fun x => by kernel_rfl) sd_ring_Load_7
noncomputable def tt_ring_Load (x : X_ring_Load) : TT Tryz.prog R_ring_Load :=
 (.call con_ring_New x.fst fun (y1 : R_ring_New) =>
 (.ite (!(ieq y1.snd 0))
  (.ret ((Bx.mk true (TRing_Ring.mk (TRing_cursors.mk 0 (Sl.mk true 0 (fun _i2 => (0 : Int)))) (Bx.mk true (TSlots_Slots.mk (Sl.mk true 0 (fun _i2 => (TApi_Slot.mk 0 0 0))) 0)) 0 false)), y1.snd))
  (.call con_slots_Load (x.fst.Cap, (x.fst.Readers, x.snd.Slots)) fun (y2 : R_slots_Load) =>
  (.ite (!(ieq y2.snd 0))
   (.ret ((Bx.mk true (TRing_Ring.mk (TRing_cursors.mk 0 (Sl.mk true 0 (fun _i3 => (0 : Int)))) (Bx.mk true (TSlots_Slots.mk (Sl.mk true 0 (fun _i3 => (TApi_Slot.mk 0 0 0))) 0)) 0 false)), 3))
   (.ite (!(ieq ((x.snd.Heads.n : Nat) : Int) x.fst.Readers))
    (.ret ((Bx.mk true (TRing_Ring.mk (TRing_cursors.mk 0 (Sl.mk true 0 (fun _i3 => (0 : Int)))) (Bx.mk true (TSlots_Slots.mk (Sl.mk true 0 (fun _i3 => (TApi_Slot.mk 0 0 0))) 0)) 0 false)), 3))
    (.ite (ile 4611686018427387904 x.snd.Tail)
     (.ret ((Bx.mk true (TRing_Ring.mk (TRing_cursors.mk 0 (Sl.mk true 0 (fun _i3 => (0 : Int)))) (Bx.mk true (TSlots_Slots.mk (Sl.mk true 0 (fun _i3 => (TApi_Slot.mk 0 0 0))) 0)) 0 false)), 3))
     (.need (!y1.fst.nil) <|
     (.jump S_ring_Load_7 D_ring_Load_7 (X_ring_Load_7.mk x.snd y2.fst y1.fst.x))
     )
    )
   )
  )
  )
 )
 )
theorem sd_ring_Load (x : X_ring_Load) : (tt_ring_Load x).Sides :=
  (TT.s_call fun _ => (TT.s_ite TT.s_ret (TT.s_call fun _ => (TT.s_ite TT.s_ret (TT.s_ite TT.s_ret (TT.s_ite TT.s_ret (TT.s_need TT.s_jump)))))))

noncomputable def D_ring_Load : Dyn X_ring_Load R_ring_Load := .of tt_ring_Load
noncomputable def con_ring_Load : Con Tryz.prog :=
  mkCon 75 J_ring_Load S_ring_Load D_ring_Load D_ring_Load (fun _ _ h => h) 2 0 [.any, sh_TApi_RingState] (by kernel_rfl) (by kernel_rfl) (by kernel_rfl) (lab_ok mixed_ok (labs_cons2 ok_ring_Load_15 rfl (labs_cons2 ok_ring_Load_14 rfl (labs_cons2 ok_ring_Load_9 rfl (labs_cons2 ok_ring_Load_7 rfl labs_nil)))) 4000 (fun x => by kernel_rfl) sd_ring_Load) rfl rfl (fun _ => rfl) (by kernel_rfl) rfl (fun _ => rfl) (fun x y _ => by kernel_rfl)

/-! thread.Code$1 (thread_Code_1) -/
abbrev X_thread_Code_1 : Type := TApi_Instr × (Sl TApi_Instr)
abbrev R_thread_Code_1 : Type := Bool
noncomputable def J_thread_Code_1 : Job Tryz.prog :=
  job Tryz.prog Tryz.f172 19 [(2, 3)] [] [] [] [.any] [] [con_code_Jumps, con_code_Right] R_thread_Code_1 [] fun y => [V.bool y]
noncomputable def S_thread_Code_1 : LabS :=
  lab0 Tryz.f172 2 0 X_thread_Code_1 (fun x => [e_TApi_Instr x.1, (eVp esl_TApi_Instr) x.2]) fun l => (d_TApi_Instr (at_ l 0), (dVp dsl_TApi_Instr) (at_ l 1))
noncomputable def tt_thread_Code_1 (x : X_thread_Code_1) : TT Tryz.prog R_thread_Code_1 :=
 (.call con_code_Right x.fst fun (y1 : R_code_Right) =>
 (.ite (!y1)
  (.ret true)
  (.call con_code_Jumps x.fst fun (y2 : R_code_Jumps) =>
  (.ite y2
   (.ret (ilt (IntKind.u64.wrap ((x.snd.n : Nat) : Int)) x.fst.K))
   (.ret false)
  )
  )
 )
 )
theorem sd_thread_Code_1 (x : X_thread_Code_1) : (tt_thread_Code_1 x).Sides :=
  (TT.s_call fun _ => (TT.s_ite TT.s_ret (TT.s_call fun _ => (TT.s_ite TT.s_ret TT.s_ret))))

noncomputable def D_thread_Code_1 : Dyn X_thread_Code_1 R_thread_Code_1 := .of tt_thread_Code_1
noncomputable def con_thread_Code_1 : Con Tryz.prog :=
  mkCon 172 J_thread_Code_1 S_thread_Code_1 D_thread_Code_1 D_thread_Code_1 (fun _ _ h => h) 2 0 [.any, .any] (by kernel_rfl) (by kernel_rfl) (by kernel_rfl) (lab_ok mixed_ok labs_nil 4000 (fun x => by kernel_rfl) sd_thread_Code_1) rfl rfl (fun _ => rfl) (by kernel_rfl) rfl (fun _ => rfl) (fun x y _ => by kernel_rfl)

/-! slices.IndexFunc[[]api.Instr,api.Instr] (slices_IndexFunc_api_Instr__thread_Code_1) -/
abbrev X_slices_IndexFunc_api_Instr__thread_Code_1 : Type := (Sl TApi_Instr) × ((Sl TApi_Instr))
abbrev R_slices_IndexFunc_api_Instr__thread_Code_1 : Type := Int
noncomputable def J_slices_IndexFunc_api_Instr__thread_Code_1 : Job Tryz.prog :=
  job Tryz.prog Tryz.f197 19 [] [] [] [] [.any] [] [con_thread_Code_1] R_slices_IndexFunc_api_Instr__thread_Code_1 [] fun y => [(V.int .i64) y]
noncomputable def S_slices_IndexFunc_api_Instr__thread_Code_1 : LabS :=
  lab0 Tryz.f197 2 0 X_slices_IndexFunc_api_Instr__thread_Code_1 (fun x => [esl_TApi_Instr x.1, (fun x : ((Sl TApi_Instr)) => V.fn 172 (V.cons ((eVp esl_TApi_Instr) x) (V.unit))) x.2]) fun l => (dsl_TApi_Instr (at_ l 0), (fun v => ((dVp dsl_TApi_Instr) (fd (fnc v) 0) : ((Sl TApi_Instr)))) (at_ l 1))
structure X_slices_IndexFunc_api_Instr__thread_Code_1_2 where
  s_0 : (Sl TApi_Instr)
  f_1 : ((Sl TApi_Instr))
  q_7 : Int
  q_8 : Int
noncomputable def S_slices_IndexFunc_api_Instr__thread_Code_1_2 : LabS :=
  labAt Tryz.f197 2 [(0, hsl_TApi_Instr), (1, .any), (7, .any), (8, .any)] [] [] X_slices_IndexFunc_api_Instr__thread_Code_1_2 (fun x => [esl_TApi_Instr x.s_0, (fun x : ((Sl TApi_Instr)) => V.fn 172 (V.cons ((eVp esl_TApi_Instr) x) (V.unit))) x.f_1, (V.int .i64) x.q_7, (V.int .i64) x.q_8]) fun l => ⟨dsl_TApi_Instr (at_ l 0), (fun v => ((dVp dsl_TApi_Instr) (fd (fnc v) 0) : ((Sl TApi_Instr)))) (at_ l 1), dI (at_ l 2), dI (at_ l 3)⟩
noncomputable def tt_slices_IndexFunc_api_Instr__thread_Code_1_2 (D_slices_IndexFunc_api_Instr__thread_Code_1_2 : Dyn X_slices_IndexFunc_api_Instr__thread_Code_1_2 R_slices_IndexFunc_api_Instr__thread_Code_1) (x : X_slices_IndexFunc_api_Instr__thread_Code_1_2) : TT Tryz.prog R_slices_IndexFunc_api_Instr__thread_Code_1 :=
 (.ite (ilt x.q_8 x.q_7)
  (.need (inb x.q_8 x.s_0.n) <|
  (.call con_thread_Code_1 ((x.s_0.get (Int.toNat x.q_8)), x.f_1) fun (y2 : R_thread_Code_1) =>
  (.ite y2
   (.ret x.q_8)
   (.jump S_slices_IndexFunc_api_Instr__thread_Code_1_2 D_slices_IndexFunc_api_Instr__thread_Code_1_2 (X_slices_IndexFunc_api_Instr__thread_Code_1_2.mk x.s_0 x.f_1 x.q_7 (IntKind.i64.wrap (x.q_8 + 1))))
  )
  )
  )
  (.ret (-(1 : Int)))
 )
theorem sd_slices_IndexFunc_api_Instr__thread_Code_1_2 (D_slices_IndexFunc_api_Instr__thread_Code_1_2 : Dyn X_slices_IndexFunc_api_Instr__thread_Code_1_2 R_slices_IndexFunc_api_Instr__thread_Code_1) (x : X_slices_IndexFunc_api_Instr__thread_Code_1_2) : (tt_slices_IndexFunc_api_Instr__thread_Code_1_2 D_slices_IndexFunc_api_Instr__thread_Code_1_2 x).Sides :=
  (TT.s_ite (TT.s_need (TT.s_call fun _ => (TT.s_ite TT.s_ret TT.s_jump))) TT.s_ret)

noncomputable def D_slices_IndexFunc_api_Instr__thread_Code_1_2 : Dyn X_slices_IndexFunc_api_Instr__thread_Code_1_2 R_slices_IndexFunc_api_Instr__thread_Code_1 := Dyn.loop tt_slices_IndexFunc_api_Instr__thread_Code_1_2
theorem ok_slices_IndexFunc_api_Instr__thread_Code_1_2 : LabOK J_slices_IndexFunc_api_Instr__thread_Code_1 S_slices_IndexFunc_api_Instr__thread_Code_1_2 D_slices_IndexFunc_api_Instr__thread_Code_1_2 :=
  loop_ok fun D_slices_IndexFunc_api_Instr__thread_Code_1_2 h_2 => lab_ok mixed_ok (labs_cons2 h_2 rfl labs_nil) 4000 (fun x => by kernel_rfl) (sd_slices_IndexFunc_api_Instr__thread_Code_1_2 D_slices_IndexFunc_api_Instr__thread_Code_1_2)
noncomputable def tt_slices_IndexFunc_api_Instr__thread_Code_1 (x : X_slices_IndexFunc_api_Instr__thread_Code_1) : TT Tryz.prog R_slices_IndexFunc_api_Instr__thread_Code_1 :=
 (.jump S_slices_IndexFunc_api_Instr__thread_Code_1_2 D_slices_IndexFunc_api_Instr__thread_Code_1_2 (X_slices_IndexFunc_api_Instr__thread_Code_1_2.mk x.fst x.snd ((x.fst.n : Nat) : Int) 0))
theorem sd_slices_IndexFunc_api_Instr__thread_Code_1 (x : X_slices_IndexFunc_api_Instr__thread_Code_1) : (tt_slices_IndexFunc_api_Instr__thread_Code_1 x).Sides :=
  TT.s_jump

noncomputable def D_slices_IndexFunc_api_Instr__thread_Code_1 : Dyn X_slices_IndexFunc_api_Instr__thread_Code_1 R_slices_IndexFunc_api_Instr__thread_Code_1 := .of tt_slices_IndexFunc_api_Instr__thread_Code_1
noncomputable def con_slices_IndexFunc_api_Instr__thread_Code_1 : Con Tryz.prog :=
  mkCon 197 J_slices_IndexFunc_api_Instr__thread_Code_1 S_slices_IndexFunc_api_Instr__thread_Code_1 D_slices_IndexFunc_api_Instr__thread_Code_1 D_slices_IndexFunc_api_Instr__thread_Code_1 (fun _ _ h => h) 2 0 [hsl_TApi_Instr, .any] (by kernel_rfl) (by kernel_rfl) (by kernel_rfl) (lab_ok mixed_ok (labs_cons2 ok_slices_IndexFunc_api_Instr__thread_Code_1_2 rfl labs_nil) 4000 (fun x => by kernel_rfl) sd_slices_IndexFunc_api_Instr__thread_Code_1) rfl rfl (fun _ => rfl) (by kernel_rfl) rfl (fun _ => rfl) (fun x y _ => by kernel_rfl)

/-! slices.ContainsFunc[[]api.Instr,api.Instr] (slices_ContainsFunc_api_Instr__thread_Code_1) -/
abbrev X_slices_ContainsFunc_api_Instr__thread_Code_1 : Type := (Sl TApi_Instr) × ((Sl TApi_Instr))
abbrev R_slices_ContainsFunc_api_Instr__thread_Code_1 : Type := Bool
noncomputable def J_slices_ContainsFunc_api_Instr__thread_Code_1 : Job Tryz.prog :=
  job Tryz.prog Tryz.f171 9 [(5, 1)] [] [] [] [.any] [] [con_slices_IndexFunc_api_Instr__thread_Code_1] R_slices_ContainsFunc_api_Instr__thread_Code_1 [] fun y => [V.bool y]
noncomputable def S_slices_ContainsFunc_api_Instr__thread_Code_1 : LabS :=
  lab0 Tryz.f171 2 0 X_slices_ContainsFunc_api_Instr__thread_Code_1 (fun x => [esl_TApi_Instr x.1, (fun x : ((Sl TApi_Instr)) => V.fn 172 (V.cons ((eVp esl_TApi_Instr) x) (V.unit))) x.2]) fun l => (dsl_TApi_Instr (at_ l 0), (fun v => ((dVp dsl_TApi_Instr) (fd (fnc v) 0) : ((Sl TApi_Instr)))) (at_ l 1))
noncomputable def tt_slices_ContainsFunc_api_Instr__thread_Code_1 (x : X_slices_ContainsFunc_api_Instr__thread_Code_1) : TT Tryz.prog R_slices_ContainsFunc_api_Instr__thread_Code_1 :=
 (.call con_slices_IndexFunc_api_Instr__thread_Code_1 x fun (y1 : R_slices_IndexFunc_api_Instr__thread_Code_1) =>
 (.ret (ile 0 y1))
 )
theorem sd_slices_ContainsFunc_api_Instr__thread_Code_1 (x : X_slices_ContainsFunc_api_Instr__thread_Code_1) : (tt_slices_ContainsFunc_api_Instr__thread_Code_1 x).Sides :=
  (TT.s_call fun _ => TT.s_ret)

noncomputable def D_slices_ContainsFunc_api_Instr__thread_Code_1 : Dyn X_slices_ContainsFunc_api_Instr__thread_Code_1 R_slices_ContainsFunc_api_Instr__thread_Code_1 := .of tt_slices_ContainsFunc_api_Instr__thread_Code_1
noncomputable def con_slices_ContainsFunc_api_Instr__thread_Code_1 : Con Tryz.prog :=
  mkCon 171 J_slices_ContainsFunc_api_Instr__thread_Code_1 S_slices_ContainsFunc_api_Instr__thread_Code_1 D_slices_ContainsFunc_api_Instr__thread_Code_1 D_slices_ContainsFunc_api_Instr__thread_Code_1 (fun _ _ h => h) 2 0 [hsl_TApi_Instr, .any] (by kernel_rfl) (by kernel_rfl) (by kernel_rfl) (lab_ok mixed_ok labs_nil 4000 (fun x => by kernel_rfl) sd_slices_ContainsFunc_api_Instr__thread_Code_1) rfl rfl (fun _ => rfl) (by kernel_rfl) rfl (fun _ => rfl) (fun x y _ => by kernel_rfl)

/-! thread.Code (thread_Code) -/
abbrev X_thread_Code : Type := (Sl TApi_Instr)
abbrev R_thread_Code : Type := Bool
noncomputable def J_thread_Code : Job Tryz.prog :=
  job Tryz.prog Tryz.f130 10 [(1, 3)] [] [] [] [.any] [] [con_slices_ContainsFunc_api_Instr__thread_Code_1] R_thread_Code [] fun y => [V.bool y]
noncomputable def S_thread_Code : LabS :=
  lab0 Tryz.f130 1 0 X_thread_Code (fun x => [esl_TApi_Instr x]) fun l => (dsl_TApi_Instr (at_ l 0))
noncomputable def tt_thread_Code (x : X_thread_Code) : TT Tryz.prog R_thread_Code :=
 (.ite (ilt 256 ((x.n : Nat) : Int))
  (.ret false)
  (.call con_slices_ContainsFunc_api_Instr__thread_Code_1 (x, x) fun (y1 : R_slices_ContainsFunc_api_Instr__thread_Code_1) =>
  (.ret (!y1))
  )
 )
theorem sd_thread_Code (x : X_thread_Code) : (tt_thread_Code x).Sides :=
  (TT.s_ite TT.s_ret (TT.s_call fun _ => TT.s_ret))

noncomputable def D_thread_Code : Dyn X_thread_Code R_thread_Code := .of tt_thread_Code
noncomputable def con_thread_Code : Con Tryz.prog :=
  mkCon 130 J_thread_Code S_thread_Code D_thread_Code D_thread_Code (fun _ _ h => h) 1 0 [hsl_TApi_Instr] (by kernel_rfl) (by kernel_rfl) (by kernel_rfl) (lab_ok mixed_ok labs_nil 4000 (fun x => by kernel_rfl) sd_thread_Code) rfl rfl (fun _ => rfl) (by kernel_rfl) rfl (fun _ => rfl) (fun x y _ => by kernel_rfl)

/-! thread.Right (thread_Right) -/
abbrev X_thread_Right : Type := (Sl TApi_Instr) × TApi_ThreadState
abbrev R_thread_Right : Type := Bool
noncomputable def J_thread_Right : Job Tryz.prog :=
  job Tryz.prog Tryz.f77 88 [(3, 3), (62, 1)] [] [] [] [.any] [] [con_thread_Code] R_thread_Right [] fun y => [V.bool y]
noncomputable def S_thread_Right : LabS :=
  lab0 Tryz.f77 2 0 X_thread_Right (fun x => [esl_TApi_Instr x.1, e_TApi_ThreadState x.2]) fun l => (dsl_TApi_Instr (at_ l 0), d_TApi_ThreadState (at_ l 1))
structure X_thread_Right_3 where
  l_0 : (Sl TApi_Instr)
  s_3 : TApi_ThreadState
noncomputable def S_thread_Right_3 : LabS :=
  labAt Tryz.f77 3 [(0, hsl_TApi_Instr), (3, .any)] [] [] X_thread_Right_3 (fun x => [esl_TApi_Instr x.l_0, (eVp e_TApi_ThreadState) x.s_3]) fun l => ⟨dsl_TApi_Instr (at_ l 0), (dVp d_TApi_ThreadState) (at_ l 1)⟩
structure X_thread_Right_7 where
  l_0 : (Sl TApi_Instr)
  s_3 : TApi_ThreadState
noncomputable def S_thread_Right_7 : LabS :=
  labAt Tryz.f77 7 [(0, hsl_TApi_Instr), (3, .any)] [] [] X_thread_Right_7 (fun x => [esl_TApi_Instr x.l_0, (eVp e_TApi_ThreadState) x.s_3]) fun l => ⟨dsl_TApi_Instr (at_ l 0), (dVp d_TApi_ThreadState) (at_ l 1)⟩
noncomputable def tt_thread_Right_7 (x : X_thread_Right_7) : TT Tryz.prog R_thread_Right :=
 (.need (inb x.s_3.At x.l_0.n) <|
 (.need (inb (IntKind.i64.wrap (x.s_3.Phase - 1)) 2) <|
 (.ite (ieq (x.l_0.get (Int.toNat x.s_3.At)).Op (cond (Nat.beq (Int.toNat (IntKind.i64.wrap (x.s_3.Phase - 1))) 0) (18 : Int) (19 : Int)))
  (.ite (ieq (x.l_0.get (Int.toNat x.s_3.At)).C x.s_3.Ring)
   (.ret (ilt x.s_3.Ticket 4611686018427387904))
   (.ret false)
  )
  (.ret false)
 )
 )
 )
theorem sd_thread_Right_7 (x : X_thread_Right_7) : (tt_thread_Right_7 x).Sides :=
  (TT.s_need (TT.s_need (TT.s_ite (TT.s_ite TT.s_ret TT.s_ret) TT.s_ret)))

noncomputable def D_thread_Right_7 : Dyn X_thread_Right_7 R_thread_Right := .of tt_thread_Right_7
theorem ok_thread_Right_7 : LabOK J_thread_Right S_thread_Right_7 D_thread_Right_7 :=
  lab_ok mixed_ok labs_nil 4000 (fun x => by kernel_rfl) sd_thread_Right_7
noncomputable def tt_thread_Right_3 (x : X_thread_Right_3) : TT Tryz.prog R_thread_Right :=
 (.ite (ieq x.s_3.Phase 0)
  (.ite (ieq x.s_3.Ring 0)
   (.ret (ieq x.s_3.Ticket 0))
   (.ret false)
  )
  (.ite (!(ieq x.s_3.Status 0))
   (.ret false)
   (.ite (ieq x.s_3.At ((x.l_0.n : Nat) : Int))
    (.ret false)
    (.jump S_thread_Right_7 D_thread_Right_7 (X_thread_Right_7.mk x.l_0 x.s_3))
   )
  )
 )
theorem sd_thread_Right_3 (x : X_thread_Right_3) : (tt_thread_Right_3 x).Sides :=
  (TT.s_ite (TT.s_ite TT.s_ret TT.s_ret) (TT.s_ite TT.s_ret (TT.s_ite TT.s_ret TT.s_jump)))

noncomputable def D_thread_Right_3 : Dyn X_thread_Right_3 R_thread_Right := .of tt_thread_Right_3
theorem ok_thread_Right_3 : LabOK J_thread_Right S_thread_Right_3 D_thread_Right_3 :=
  lab_ok mixed_ok (labs_cons2 ok_thread_Right_7 rfl labs_nil) 4000 (fun x => by kernel_rfl) sd_thread_Right_3
noncomputable def tt_thread_Right (x : X_thread_Right) : TT Tryz.prog R_thread_Right :=
 (.call con_thread_Code x.fst fun (y1 : R_thread_Code) =>
 (.ite (!y1)
  (.ret false)
  (.ite (ilt x.snd.At 0)
   (.ret false)
   (.ite (ilt ((x.fst.n : Nat) : Int) x.snd.At)
    (.ret false)
    (.ite (ilt x.snd.Status 0)
     (.ret false)
     (.ite (ilt 2 x.snd.Status)
      (.ret false)
      (.ite (ilt x.snd.Phase 0)
       (.ret false)
       (.ite (ilt 2 x.snd.Phase)
        (.ret false)
        (.jump S_thread_Right_3 D_thread_Right_3 (X_thread_Right_3.mk x.fst x.snd))
       )
      )
     )
    )
   )
  )
 )
 )
theorem sd_thread_Right (x : X_thread_Right) : (tt_thread_Right x).Sides :=
  (TT.s_call fun _ => (TT.s_ite TT.s_ret (TT.s_ite TT.s_ret (TT.s_ite TT.s_ret (TT.s_ite TT.s_ret (TT.s_ite TT.s_ret (TT.s_ite TT.s_ret (TT.s_ite TT.s_ret TT.s_jump))))))))

noncomputable def D_thread_Right : Dyn X_thread_Right R_thread_Right := .of tt_thread_Right
noncomputable def con_thread_Right : Con Tryz.prog :=
  mkCon 77 J_thread_Right S_thread_Right D_thread_Right D_thread_Right (fun _ _ h => h) 2 0 [hsl_TApi_Instr, sh_TApi_ThreadState] (by kernel_rfl) (by kernel_rfl) (by kernel_rfl) (lab_ok mixed_ok (labs_cons2 ok_thread_Right_7 rfl (labs_cons2 ok_thread_Right_3 rfl labs_nil)) 4000 (fun x => by kernel_rfl) sd_thread_Right) rfl rfl (fun _ => rfl) (by kernel_rfl) rfl (fun _ => rfl) (fun x y _ => by kernel_rfl)

/-! (*ring.Ring).Tail (ring_Ring_Tail) -/
abbrev X_ring_Ring_Tail : Type := TRing_Ring
abbrev R_ring_Ring_Tail : Type := Int
abbrev RR_ring_Ring_Tail : Type := Int × TRing_Ring
abbrev p_ring_Ring_Tail (y : RR_ring_Ring_Tail) : TRing_Ring := y.2
abbrev w_ring_Ring_Tail (x : X_ring_Ring_Tail) : TRing_Ring := x
noncomputable def J_ring_Ring_Tail : Job Tryz.prog :=
  job Tryz.prog Tryz.f108 10 [] [] [] [] [.any] [sh_TRing_Ring] [] RR_ring_Ring_Tail [] fun y => [(V.int .u64) y.1, e_TRing_Ring y.2]
noncomputable def S_ring_Ring_Tail : LabS :=
  lab0 Tryz.f108 1 1 X_ring_Ring_Tail (fun x => [(V.ptr (.par 0) []), e_TRing_Ring x]) fun l => (d_TRing_Ring (at_ l 1))
noncomputable def tt_ring_Ring_Tail (x : X_ring_Ring_Tail) : TT Tryz.prog RR_ring_Ring_Tail :=
 (.ret (x.cursors.tail, x))
theorem sd_ring_Ring_Tail (x : X_ring_Ring_Tail) : (tt_ring_Ring_Tail x).Sides :=
  TT.s_ret
theorem roT_ring_Ring_Tail (x : X_ring_Ring_Tail) : TT.Ro p_ring_Ring_Tail (w_ring_Ring_Tail x) (tt_ring_Ring_Tail x) :=
  (TT.ro_ret rfl)

noncomputable def D_ring_Ring_Tail : Dyn X_ring_Ring_Tail R_ring_Ring_Tail := .ro (.of tt_ring_Ring_Tail) (fun y => (y.1)) (fun y x => (y, x)) fun x y h => congrArg (fun o => (y.1, o)) (roT_ring_Ring_Tail x y h)
noncomputable def con_ring_Ring_Tail : Con Tryz.prog :=
  mkConP 108 J_ring_Ring_Tail S_ring_Ring_Tail (.of tt_ring_Ring_Tail) D_ring_Ring_Tail (fun y x => (y, x)) (fun _ _ h => h) (fun y => (V.int .u64) y) 1 1 [.any] (by kernel_rfl) (by kernel_rfl) (by kernel_rfl) (lab_ok mixed_ok labs_nil 4000 (fun x => by kernel_rfl) sd_ring_Ring_Tail) rfl rfl (fun _ => rfl) (by kernel_rfl) rfl (fun _ _ => rfl) (fun _ => rfl) (fun x => ⟨(nu_e_TRing_Ring : ∀ y, (e_TRing_Ring y).NoU) (x), trivial⟩)

/-! (*ring.cursors).reader (ring_cursors_reader) -/
abbrev X_ring_cursors_reader : Type := Int × TRing_cursors
abbrev R_ring_cursors_reader : Type := Bool
abbrev RR_ring_cursors_reader : Type := Bool × TRing_cursors
abbrev p_ring_cursors_reader (y : RR_ring_cursors_reader) : TRing_cursors := y.2
abbrev w_ring_cursors_reader (x : X_ring_cursors_reader) : TRing_cursors := x.2
noncomputable def J_ring_cursors_reader : Job Tryz.prog :=
  job Tryz.prog Tryz.f156 16 [] [] [] [.back (.loc 12 0)] [.any] [sh_TRing_cursors] [] RR_ring_cursors_reader [] fun y => [V.bool y.1, e_TRing_cursors y.2]
noncomputable def S_ring_cursors_reader : LabS :=
  lab0 Tryz.f156 2 1 X_ring_cursors_reader (fun x => [(V.ptr (.par 0) []), (V.int .i64) x.1, e_TRing_cursors x.2]) fun l => (dI (at_ l 1), d_TRing_cursors (at_ l 2))
noncomputable def tt_ring_cursors_reader (x : X_ring_cursors_reader) : TT Tryz.prog RR_ring_cursors_reader :=
 (.ite (ile 0 x.fst)
  (.need ((true && true) && (Nat.beq x.snd.heads.n x.snd.heads.n)) <|
  (.ret ((ilt x.fst ((x.snd.heads.n : Nat) : Int)), x.snd))
  )
  (.ret (false, x.snd))
 )
theorem sd_ring_cursors_reader (x : X_ring_cursors_reader) : (tt_ring_cursors_reader x).Sides :=
  (TT.s_ite (TT.s_need TT.s_ret) TT.s_ret)
theorem roT_ring_cursors_reader (x : X_ring_cursors_reader) : TT.Ro p_ring_cursors_reader (w_ring_cursors_reader x) (tt_ring_cursors_reader x) :=
  (TT.ro_ite (TT.ro_need (TT.ro_ret rfl)) (TT.ro_ret rfl))

noncomputable def D_ring_cursors_reader : Dyn X_ring_cursors_reader R_ring_cursors_reader := .ro (.of tt_ring_cursors_reader) (fun y => (y.1)) (fun y x => (y, x.2)) fun x y h => congrArg (fun o => (y.1, o)) (roT_ring_cursors_reader x y h)
noncomputable def con_ring_cursors_reader : Con Tryz.prog :=
  mkConP 156 J_ring_cursors_reader S_ring_cursors_reader (.of tt_ring_cursors_reader) D_ring_cursors_reader (fun y x => (y, x.2)) (fun _ _ h => h) (fun y => V.bool y) 2 1 [.any, .any] (by kernel_rfl) (by kernel_rfl) (by kernel_rfl) (lab_ok mixed_ok labs_nil 4000 (fun x => by kernel_rfl) sd_ring_cursors_reader) rfl rfl (fun _ => rfl) (by kernel_rfl) rfl (fun _ _ => rfl) (fun _ => rfl) (fun x => ⟨(nu_e_TRing_cursors : ∀ y, (e_TRing_cursors y).NoU) (x.2), trivial⟩)

/-! (*ring.Ring).Head (ring_Ring_Head) -/
abbrev X_ring_Ring_Head : Type := Int × TRing_Ring
abbrev R_ring_Ring_Head : Type := Int
abbrev RR_ring_Ring_Head : Type := Int × TRing_Ring
abbrev p_ring_Ring_Head (y : RR_ring_Ring_Head) : TRing_Ring := y.2
abbrev w_ring_Ring_Head (x : X_ring_Ring_Head) : TRing_Ring := x.2
noncomputable def J_ring_Ring_Head : Job Tryz.prog :=
  job Tryz.prog Tryz.f110 23 [] [] [] [.back (.loc 19 0)] [.any] [sh_TRing_Ring] [con_ring_cursors_reader] RR_ring_Ring_Head [] fun y => [(V.int .u64) y.1, e_TRing_Ring y.2]
noncomputable def S_ring_Ring_Head : LabS :=
  lab0 Tryz.f110 2 1 X_ring_Ring_Head (fun x => [(V.ptr (.par 0) []), (V.int .i64) x.1, e_TRing_Ring x.2]) fun l => (dI (at_ l 1), d_TRing_Ring (at_ l 2))
structure X_ring_Ring_Head_3 where
  j_1 : Int
  o_0 : TRing_Ring
noncomputable def S_ring_Ring_Head_3 : LabS :=
  labAt Tryz.f110 3 [(0, .any), (1, .any)] [sh_TRing_Ring] [] X_ring_Ring_Head_3 (fun x => [(V.ptr (.par 0) []), (V.int .i64) x.j_1, e_TRing_Ring x.o_0]) fun l => ⟨dI (at_ l 1), d_TRing_Ring (at_ l 2)⟩
abbrev w_ring_Ring_Head_3 (x : X_ring_Ring_Head_3) : TRing_Ring := (x.o_0)
noncomputable def tt_ring_Ring_Head_3 (x : X_ring_Ring_Head_3) : TT Tryz.prog RR_ring_Ring_Head :=
 (.need (inb x.j_1 x.o_0.cursors.heads.n) <|
 (.need ((Nat.beq x.o_0.cursors.heads.n x.o_0.cursors.heads.n) && true) <|
 (.need ((true && true) && (Nat.beq x.o_0.cursors.heads.n x.o_0.cursors.heads.n)) <|
 (.ret ((x.o_0.cursors.heads.get ((0 : Nat) + (Int.toNat x.j_1))), x.o_0))
 )
 )
 )
theorem sd_ring_Ring_Head_3 (x : X_ring_Ring_Head_3) : (tt_ring_Ring_Head_3 x).Sides :=
  (TT.s_need (TT.s_need (TT.s_need TT.s_ret)))
theorem roT_ring_Ring_Head_3 (x : X_ring_Ring_Head_3) : TT.Ro p_ring_Ring_Head (w_ring_Ring_Head_3 x) (tt_ring_Ring_Head_3 x) :=
  (TT.ro_need (TT.ro_need (TT.ro_need (TT.ro_ret rfl))))

noncomputable def D_ring_Ring_Head_3 : Dyn X_ring_Ring_Head_3 RR_ring_Ring_Head := .of tt_ring_Ring_Head_3
theorem ok_ring_Ring_Head_3 : LabOK J_ring_Ring_Head S_ring_Ring_Head_3 D_ring_Ring_Head_3 :=
  lab_ok mixed_ok labs_nil 4000 (fun x => by kernel_rfl) sd_ring_Ring_Head_3
theorem ro_ring_Ring_Head_3 : ∀ x y, D_ring_Ring_Head_3.rel x y → p_ring_Ring_Head y = w_ring_Ring_Head_3 x :=
  roT_ring_Ring_Head_3 
noncomputable def tt_ring_Ring_Head (x : X_ring_Ring_Head) : TT Tryz.prog RR_ring_Ring_Head :=
 (.call con_ring_cursors_reader (x.fst, x.snd.cursors) fun (y1 : R_ring_cursors_reader) =>
 (.ite (!y1)
  (.ret (0, x.snd))
  (.jump S_ring_Ring_Head_3 D_ring_Ring_Head_3 (X_ring_Ring_Head_3.mk x.fst x.snd))
 )
 )
theorem sd_ring_Ring_Head (x : X_ring_Ring_Head) : (tt_ring_Ring_Head x).Sides :=
  (TT.s_call fun _ => (TT.s_ite TT.s_ret TT.s_jump))
theorem roT_ring_Ring_Head (x : X_ring_Ring_Head) : TT.Ro p_ring_Ring_Head (w_ring_Ring_Head x) (tt_ring_Ring_Head x) :=
  (TT.ro_call fun _ => (TT.ro_ite (TT.ro_ret rfl) (TT.ro_jump (ro_ring_Ring_Head_3 _))))

noncomputable def D_ring_Ring_Head : Dyn X_ring_Ring_Head R_ring_Ring_Head := .ro (.of tt_ring_Ring_Head) (fun y => (y.1)) (fun y x => (y, x.2)) fun x y h => congrArg (fun o => (y.1, o)) (roT_ring_Ring_Head x y h)
noncomputable def con_ring_Ring_Head : Con Tryz.prog :=
  mkConP 110 J_ring_Ring_Head S_ring_Ring_Head (.of tt_ring_Ring_Head) D_ring_Ring_Head (fun y x => (y, x.2)) (fun _ _ h => h) (fun y => (V.int .u64) y) 2 1 [.any, .any] (by kernel_rfl) (by kernel_rfl) (by kernel_rfl) (lab_ok mixed_ok (labs_cons2 ok_ring_Ring_Head_3 rfl labs_nil) 4000 (fun x => by kernel_rfl) sd_ring_Ring_Head) rfl rfl (fun _ => rfl) (by kernel_rfl) rfl (fun _ _ => rfl) (fun _ => rfl) (fun x => ⟨(nu_e_TRing_Ring : ∀ y, (e_TRing_Ring y).NoU) (x.2), trivial⟩)

/-! (*fabric.Fabric).pending (fabric_Fabric_pending) -/
abbrev X_fabric_Fabric_pending : Type := Int × TFabric_Fabric
abbrev R_fabric_Fabric_pending : Type := Bool
abbrev RR_fabric_Fabric_pending : Type := Bool × TFabric_Fabric
abbrev p_fabric_Fabric_pending (y : RR_fabric_Fabric_pending) : TFabric_Fabric := y.2
abbrev w_fabric_Fabric_pending (x : X_fabric_Fabric_pending) : TFabric_Fabric := x.2
noncomputable def J_fabric_Fabric_pending : Job Tryz.prog :=
  job Tryz.prog Tryz.f78 57 [] [(2, [.back (.loc 9 0)]), (3, [.back (.loc 9 0)]), (4, [.back (.loc 9 0)]), (5, [.back (.loc 26 0), .back (.loc 22 0), .back (.loc 9 0)]), (6, [.back (.loc 26 0), .back (.loc 22 0), .back (.loc 9 0)]), (7, [.back (.loc 40 0), .back (.loc 36 0), .back (.loc 26 0), .back (.loc 22 0), .back (.loc 9 0)])] [(4, [.opn (.par 0) [.fld 2 3] 22]), (6, [.opn (.par 0) [.fld 2 3] 36])] [.back (.loc 40 0), .back (.loc 36 0), .back (.loc 26 0), .back (.loc 22 0), .back (.loc 9 0)] [.any] [sh_TFabric_Fabric] [con_ring_Ring_Head, con_ring_Ring_Tail] RR_fabric_Fabric_pending [(0, [⟨.loc 22 0, .par 0, [.fld 2 3], none, none⟩, ⟨.loc 36 0, .par 0, [.fld 2 3], none, none⟩])] fun y => [V.bool y.1, e_TFabric_Fabric y.2]
noncomputable def S_fabric_Fabric_pending : LabS :=
  lab0 Tryz.f78 2 1 X_fabric_Fabric_pending (fun x => [(V.ptr (.par 0) []), (V.int .i64) x.1, e_TFabric_Fabric x.2]) fun l => (dI (at_ l 1), d_TFabric_Fabric (at_ l 2))
noncomputable def tt_fabric_Fabric_pending (x : X_fabric_Fabric_pending) : TT Tryz.prog RR_fabric_Fabric_pending :=
 (.need (inb x.fst x.snd.threads.n) <|
 (.need ((Nat.beq x.snd.threads.n x.snd.threads.n) && true) <|
 (.need ((true && true) && (Nat.beq x.snd.threads.n x.snd.threads.n)) <|
 (.ite (ieq (x.snd.threads.get ((0 : Nat) + (Int.toNat x.fst))).Phase 1)
  (.need (inb (x.snd.threads.get ((0 : Nat) + (Int.toNat x.fst))).Ring x.snd.rings.n) <|
  (.need (((Nat.beq x.snd.rings.n x.snd.rings.n) && true) && (!(x.snd.rings.get ((0 : Nat) + (Int.toNat (x.snd.threads.get ((0 : Nat) + (Int.toNat x.fst))).Ring))).nil)) <|
  (.call con_ring_Ring_Tail (x.snd.rings.get ((0 : Nat) + (Int.toNat (x.snd.threads.get ((0 : Nat) + (Int.toNat x.fst))).Ring))).x fun (y1 : R_ring_Ring_Tail) =>
  (.need ((true && true) && (((Nat.beq x.snd.rings.n x.snd.rings.n) && (Nat.blt ((0 : Nat) + (Int.toNat (x.snd.threads.get ((0 : Nat) + (Int.toNat x.fst))).Ring)) x.snd.rings.n)) && (!(x.snd.rings.get ((0 : Nat) + (Int.toNat (x.snd.threads.get ((0 : Nat) + (Int.toNat x.fst))).Ring))).nil))) <|
  (.side (((fun i2 => (cond (Nat.beq i2 ((0 : Nat) + (Int.toNat (x.snd.threads.get ((0 : Nat) + (Int.toNat x.fst))).Ring))) (V.ptr (Id.loc 26 0) List.nil) (V.obox (x.snd.rings.get i2).nil (V.cons (V.cons (V.int IntKind.u64 (x.snd.rings.get i2).x.cursors.tail) (V.cons (V.osl 35 1 (x.snd.rings.get i2).x.cursors.heads.nil (x.snd.rings.get i2).x.cursors.heads.n (fun i3 => (V.int IntKind.u64 ((x.snd.rings.get i2).x.cursors.heads.get i3)))) V.unit)) (V.cons (V.obox (x.snd.rings.get i2).x.s.nil (V.cons (V.osl 150 3 (x.snd.rings.get i2).x.s.x.l.nil (x.snd.rings.get i2).x.s.x.l.n (fun i3 => (V.cons (V.int IntKind.u64 ((x.snd.rings.get i2).x.s.x.l.get i3).Stamp) (V.cons (V.int IntKind.u64 ((x.snd.rings.get i2).x.s.x.l.get i3).Value) (V.cons (V.int IntKind.i64 ((x.snd.rings.get i2).x.s.x.l.get i3).Left) V.unit))))) (V.cons (V.int IntKind.i64 (x.snd.rings.get i2).x.s.x.readers) V.unit))) (V.cons (V.int IntKind.u64 (x.snd.rings.get i2).x.most) (V.cons (V.bool (x.snd.rings.get i2).x.closed) V.unit))))))) = (fun i2 => (cond (Nat.beq i2 ((0 : Nat) + (Int.toNat (x.snd.threads.get ((0 : Nat) + (Int.toNat x.fst))).Ring))) (V.ptr (Id.loc 26 0) List.nil) (V.obox (x.snd.rings.get i2).nil (V.cons (V.cons (V.int IntKind.u64 (x.snd.rings.get i2).x.cursors.tail) (V.cons (V.osl 35 1 (x.snd.rings.get i2).x.cursors.heads.nil (x.snd.rings.get i2).x.cursors.heads.n (fun i3 => (V.int IntKind.u64 ((x.snd.rings.get i2).x.cursors.heads.get i3)))) V.unit)) (V.cons (V.obox (x.snd.rings.get i2).x.s.nil (V.cons (V.osl 150 3 (x.snd.rings.get i2).x.s.x.l.nil (x.snd.rings.get i2).x.s.x.l.n (fun i3 => (V.cons (V.int IntKind.u64 ((x.snd.rings.get i2).x.s.x.l.get i3).Stamp) (V.cons (V.int IntKind.u64 ((x.snd.rings.get i2).x.s.x.l.get i3).Value) (V.cons (V.int IntKind.i64 ((x.snd.rings.get i2).x.s.x.l.get i3).Left) V.unit))))) (V.cons (V.int IntKind.i64 (x.snd.rings.get i2).x.s.x.readers) V.unit))) (V.cons (V.int IntKind.u64 (x.snd.rings.get i2).x.most) (V.cons (V.bool (x.snd.rings.get i2).x.closed) V.unit)))))))) ∧ (((fun v : V => v = v) (V.cons (V.cons (V.int IntKind.u64 (x.snd.rings.get ((0 : Nat) + (Int.toNat (x.snd.threads.get ((0 : Nat) + (Int.toNat x.fst))).Ring))).x.cursors.tail) (V.cons (V.osl 35 1 (x.snd.rings.get ((0 : Nat) + (Int.toNat (x.snd.threads.get ((0 : Nat) + (Int.toNat x.fst))).Ring))).x.cursors.heads.nil (x.snd.rings.get ((0 : Nat) + (Int.toNat (x.snd.threads.get ((0 : Nat) + (Int.toNat x.fst))).Ring))).x.cursors.heads.n (fun i2 => (V.int IntKind.u64 ((x.snd.rings.get ((0 : Nat) + (Int.toNat (x.snd.threads.get ((0 : Nat) + (Int.toNat x.fst))).Ring))).x.cursors.heads.get i2)))) V.unit)) (V.cons (V.obox (x.snd.rings.get ((0 : Nat) + (Int.toNat (x.snd.threads.get ((0 : Nat) + (Int.toNat x.fst))).Ring))).x.s.nil (V.cons (V.osl 150 3 (x.snd.rings.get ((0 : Nat) + (Int.toNat (x.snd.threads.get ((0 : Nat) + (Int.toNat x.fst))).Ring))).x.s.x.l.nil (x.snd.rings.get ((0 : Nat) + (Int.toNat (x.snd.threads.get ((0 : Nat) + (Int.toNat x.fst))).Ring))).x.s.x.l.n (fun i2 => (V.cons (V.int IntKind.u64 ((x.snd.rings.get ((0 : Nat) + (Int.toNat (x.snd.threads.get ((0 : Nat) + (Int.toNat x.fst))).Ring))).x.s.x.l.get i2).Stamp) (V.cons (V.int IntKind.u64 ((x.snd.rings.get ((0 : Nat) + (Int.toNat (x.snd.threads.get ((0 : Nat) + (Int.toNat x.fst))).Ring))).x.s.x.l.get i2).Value) (V.cons (V.int IntKind.i64 ((x.snd.rings.get ((0 : Nat) + (Int.toNat (x.snd.threads.get ((0 : Nat) + (Int.toNat x.fst))).Ring))).x.s.x.l.get i2).Left) V.unit))))) (V.cons (V.int IntKind.i64 (x.snd.rings.get ((0 : Nat) + (Int.toNat (x.snd.threads.get ((0 : Nat) + (Int.toNat x.fst))).Ring))).x.s.x.readers) V.unit))) (V.cons (V.int IntKind.u64 (x.snd.rings.get ((0 : Nat) + (Int.toNat (x.snd.threads.get ((0 : Nat) + (Int.toNat x.fst))).Ring))).x.most) (V.cons (V.bool (x.snd.rings.get ((0 : Nat) + (Int.toNat (x.snd.threads.get ((0 : Nat) + (Int.toNat x.fst))).Ring))).x.closed) V.unit))))) ∧ ((fun v : V => v = v) (V.obox (x.snd.rings.get ((0 : Nat) + (Int.toNat (x.snd.threads.get ((0 : Nat) + (Int.toNat x.fst))).Ring))).nil (V.cons (V.cons (V.int IntKind.u64 (x.snd.rings.get ((0 : Nat) + (Int.toNat (x.snd.threads.get ((0 : Nat) + (Int.toNat x.fst))).Ring))).x.cursors.tail) (V.cons (V.osl 35 1 (x.snd.rings.get ((0 : Nat) + (Int.toNat (x.snd.threads.get ((0 : Nat) + (Int.toNat x.fst))).Ring))).x.cursors.heads.nil (x.snd.rings.get ((0 : Nat) + (Int.toNat (x.snd.threads.get ((0 : Nat) + (Int.toNat x.fst))).Ring))).x.cursors.heads.n (fun i2 => (V.int IntKind.u64 ((x.snd.rings.get ((0 : Nat) + (Int.toNat (x.snd.threads.get ((0 : Nat) + (Int.toNat x.fst))).Ring))).x.cursors.heads.get i2)))) V.unit)) (V.cons (V.obox (x.snd.rings.get ((0 : Nat) + (Int.toNat (x.snd.threads.get ((0 : Nat) + (Int.toNat x.fst))).Ring))).x.s.nil (V.cons (V.osl 150 3 (x.snd.rings.get ((0 : Nat) + (Int.toNat (x.snd.threads.get ((0 : Nat) + (Int.toNat x.fst))).Ring))).x.s.x.l.nil (x.snd.rings.get ((0 : Nat) + (Int.toNat (x.snd.threads.get ((0 : Nat) + (Int.toNat x.fst))).Ring))).x.s.x.l.n (fun i2 => (V.cons (V.int IntKind.u64 ((x.snd.rings.get ((0 : Nat) + (Int.toNat (x.snd.threads.get ((0 : Nat) + (Int.toNat x.fst))).Ring))).x.s.x.l.get i2).Stamp) (V.cons (V.int IntKind.u64 ((x.snd.rings.get ((0 : Nat) + (Int.toNat (x.snd.threads.get ((0 : Nat) + (Int.toNat x.fst))).Ring))).x.s.x.l.get i2).Value) (V.cons (V.int IntKind.i64 ((x.snd.rings.get ((0 : Nat) + (Int.toNat (x.snd.threads.get ((0 : Nat) + (Int.toNat x.fst))).Ring))).x.s.x.l.get i2).Left) V.unit))))) (V.cons (V.int IntKind.i64 (x.snd.rings.get ((0 : Nat) + (Int.toNat (x.snd.threads.get ((0 : Nat) + (Int.toNat x.fst))).Ring))).x.s.x.readers) V.unit))) (V.cons (V.int IntKind.u64 (x.snd.rings.get ((0 : Nat) + (Int.toNat (x.snd.threads.get ((0 : Nat) + (Int.toNat x.fst))).Ring))).x.most) (V.cons (V.bool (x.snd.rings.get ((0 : Nat) + (Int.toNat (x.snd.threads.get ((0 : Nat) + (Int.toNat x.fst))).Ring))).x.closed) V.unit)))))))) <|
  (.need ((true && true) && (Nat.beq x.snd.rings.n x.snd.rings.n)) <|
  (.ret ((ilt (x.snd.threads.get ((0 : Nat) + (Int.toNat x.fst))).Ticket y1), (TFabric_Fabric.mk x.snd.p x.snd.threads x.snd.rings x.snd.now x.snd.reads x.snd.ended)))
  )
  )
  )
  )
  )
  )
  (.ite (ieq (x.snd.threads.get ((0 : Nat) + (Int.toNat x.fst))).Phase 2)
   (.need (inb (x.snd.threads.get ((0 : Nat) + (Int.toNat x.fst))).Ring x.snd.rings.n) <|
   (.need (((Nat.beq x.snd.rings.n x.snd.rings.n) && true) && (!(x.snd.rings.get ((0 : Nat) + (Int.toNat (x.snd.threads.get ((0 : Nat) + (Int.toNat x.fst))).Ring))).nil)) <|
   (.need (inb x.fst x.snd.p.Threads.n) <|
   (.need (inb (x.snd.threads.get ((0 : Nat) + (Int.toNat x.fst))).At (x.snd.p.Threads.get (Int.toNat x.fst)).n) <|
   (.call con_ring_Ring_Head ((IntKind.i64.wrap ((x.snd.p.Threads.get (Int.toNat x.fst)).get (Int.toNat (x.snd.threads.get ((0 : Nat) + (Int.toNat x.fst))).At)).K), (x.snd.rings.get ((0 : Nat) + (Int.toNat (x.snd.threads.get ((0 : Nat) + (Int.toNat x.fst))).Ring))).x) fun (y1 : R_ring_Ring_Head) =>
   (.need ((true && true) && (((Nat.beq x.snd.rings.n x.snd.rings.n) && (Nat.blt ((0 : Nat) + (Int.toNat (x.snd.threads.get ((0 : Nat) + (Int.toNat x.fst))).Ring)) x.snd.rings.n)) && (!(x.snd.rings.get ((0 : Nat) + (Int.toNat (x.snd.threads.get ((0 : Nat) + (Int.toNat x.fst))).Ring))).nil))) <|
   (.side (((fun i2 => (cond (Nat.beq i2 ((0 : Nat) + (Int.toNat (x.snd.threads.get ((0 : Nat) + (Int.toNat x.fst))).Ring))) (V.ptr (Id.loc 40 0) List.nil) (V.obox (x.snd.rings.get i2).nil (V.cons (V.cons (V.int IntKind.u64 (x.snd.rings.get i2).x.cursors.tail) (V.cons (V.osl 35 1 (x.snd.rings.get i2).x.cursors.heads.nil (x.snd.rings.get i2).x.cursors.heads.n (fun i3 => (V.int IntKind.u64 ((x.snd.rings.get i2).x.cursors.heads.get i3)))) V.unit)) (V.cons (V.obox (x.snd.rings.get i2).x.s.nil (V.cons (V.osl 150 3 (x.snd.rings.get i2).x.s.x.l.nil (x.snd.rings.get i2).x.s.x.l.n (fun i3 => (V.cons (V.int IntKind.u64 ((x.snd.rings.get i2).x.s.x.l.get i3).Stamp) (V.cons (V.int IntKind.u64 ((x.snd.rings.get i2).x.s.x.l.get i3).Value) (V.cons (V.int IntKind.i64 ((x.snd.rings.get i2).x.s.x.l.get i3).Left) V.unit))))) (V.cons (V.int IntKind.i64 (x.snd.rings.get i2).x.s.x.readers) V.unit))) (V.cons (V.int IntKind.u64 (x.snd.rings.get i2).x.most) (V.cons (V.bool (x.snd.rings.get i2).x.closed) V.unit))))))) = (fun i2 => (cond (Nat.beq i2 ((0 : Nat) + (Int.toNat (x.snd.threads.get ((0 : Nat) + (Int.toNat x.fst))).Ring))) (V.ptr (Id.loc 40 0) List.nil) (V.obox (x.snd.rings.get i2).nil (V.cons (V.cons (V.int IntKind.u64 (x.snd.rings.get i2).x.cursors.tail) (V.cons (V.osl 35 1 (x.snd.rings.get i2).x.cursors.heads.nil (x.snd.rings.get i2).x.cursors.heads.n (fun i3 => (V.int IntKind.u64 ((x.snd.rings.get i2).x.cursors.heads.get i3)))) V.unit)) (V.cons (V.obox (x.snd.rings.get i2).x.s.nil (V.cons (V.osl 150 3 (x.snd.rings.get i2).x.s.x.l.nil (x.snd.rings.get i2).x.s.x.l.n (fun i3 => (V.cons (V.int IntKind.u64 ((x.snd.rings.get i2).x.s.x.l.get i3).Stamp) (V.cons (V.int IntKind.u64 ((x.snd.rings.get i2).x.s.x.l.get i3).Value) (V.cons (V.int IntKind.i64 ((x.snd.rings.get i2).x.s.x.l.get i3).Left) V.unit))))) (V.cons (V.int IntKind.i64 (x.snd.rings.get i2).x.s.x.readers) V.unit))) (V.cons (V.int IntKind.u64 (x.snd.rings.get i2).x.most) (V.cons (V.bool (x.snd.rings.get i2).x.closed) V.unit)))))))) ∧ (((fun v : V => v = v) (V.cons (V.cons (V.int IntKind.u64 (x.snd.rings.get ((0 : Nat) + (Int.toNat (x.snd.threads.get ((0 : Nat) + (Int.toNat x.fst))).Ring))).x.cursors.tail) (V.cons (V.osl 35 1 (x.snd.rings.get ((0 : Nat) + (Int.toNat (x.snd.threads.get ((0 : Nat) + (Int.toNat x.fst))).Ring))).x.cursors.heads.nil (x.snd.rings.get ((0 : Nat) + (Int.toNat (x.snd.threads.get ((0 : Nat) + (Int.toNat x.fst))).Ring))).x.cursors.heads.n (fun i2 => (V.int IntKind.u64 ((x.snd.rings.get ((0 : Nat) + (Int.toNat (x.snd.threads.get ((0 : Nat) + (Int.toNat x.fst))).Ring))).x.cursors.heads.get i2)))) V.unit)) (V.cons (V.obox (x.snd.rings.get ((0 : Nat) + (Int.toNat (x.snd.threads.get ((0 : Nat) + (Int.toNat x.fst))).Ring))).x.s.nil (V.cons (V.osl 150 3 (x.snd.rings.get ((0 : Nat) + (Int.toNat (x.snd.threads.get ((0 : Nat) + (Int.toNat x.fst))).Ring))).x.s.x.l.nil (x.snd.rings.get ((0 : Nat) + (Int.toNat (x.snd.threads.get ((0 : Nat) + (Int.toNat x.fst))).Ring))).x.s.x.l.n (fun i2 => (V.cons (V.int IntKind.u64 ((x.snd.rings.get ((0 : Nat) + (Int.toNat (x.snd.threads.get ((0 : Nat) + (Int.toNat x.fst))).Ring))).x.s.x.l.get i2).Stamp) (V.cons (V.int IntKind.u64 ((x.snd.rings.get ((0 : Nat) + (Int.toNat (x.snd.threads.get ((0 : Nat) + (Int.toNat x.fst))).Ring))).x.s.x.l.get i2).Value) (V.cons (V.int IntKind.i64 ((x.snd.rings.get ((0 : Nat) + (Int.toNat (x.snd.threads.get ((0 : Nat) + (Int.toNat x.fst))).Ring))).x.s.x.l.get i2).Left) V.unit))))) (V.cons (V.int IntKind.i64 (x.snd.rings.get ((0 : Nat) + (Int.toNat (x.snd.threads.get ((0 : Nat) + (Int.toNat x.fst))).Ring))).x.s.x.readers) V.unit))) (V.cons (V.int IntKind.u64 (x.snd.rings.get ((0 : Nat) + (Int.toNat (x.snd.threads.get ((0 : Nat) + (Int.toNat x.fst))).Ring))).x.most) (V.cons (V.bool (x.snd.rings.get ((0 : Nat) + (Int.toNat (x.snd.threads.get ((0 : Nat) + (Int.toNat x.fst))).Ring))).x.closed) V.unit))))) ∧ ((fun v : V => v = v) (V.obox (x.snd.rings.get ((0 : Nat) + (Int.toNat (x.snd.threads.get ((0 : Nat) + (Int.toNat x.fst))).Ring))).nil (V.cons (V.cons (V.int IntKind.u64 (x.snd.rings.get ((0 : Nat) + (Int.toNat (x.snd.threads.get ((0 : Nat) + (Int.toNat x.fst))).Ring))).x.cursors.tail) (V.cons (V.osl 35 1 (x.snd.rings.get ((0 : Nat) + (Int.toNat (x.snd.threads.get ((0 : Nat) + (Int.toNat x.fst))).Ring))).x.cursors.heads.nil (x.snd.rings.get ((0 : Nat) + (Int.toNat (x.snd.threads.get ((0 : Nat) + (Int.toNat x.fst))).Ring))).x.cursors.heads.n (fun i2 => (V.int IntKind.u64 ((x.snd.rings.get ((0 : Nat) + (Int.toNat (x.snd.threads.get ((0 : Nat) + (Int.toNat x.fst))).Ring))).x.cursors.heads.get i2)))) V.unit)) (V.cons (V.obox (x.snd.rings.get ((0 : Nat) + (Int.toNat (x.snd.threads.get ((0 : Nat) + (Int.toNat x.fst))).Ring))).x.s.nil (V.cons (V.osl 150 3 (x.snd.rings.get ((0 : Nat) + (Int.toNat (x.snd.threads.get ((0 : Nat) + (Int.toNat x.fst))).Ring))).x.s.x.l.nil (x.snd.rings.get ((0 : Nat) + (Int.toNat (x.snd.threads.get ((0 : Nat) + (Int.toNat x.fst))).Ring))).x.s.x.l.n (fun i2 => (V.cons (V.int IntKind.u64 ((x.snd.rings.get ((0 : Nat) + (Int.toNat (x.snd.threads.get ((0 : Nat) + (Int.toNat x.fst))).Ring))).x.s.x.l.get i2).Stamp) (V.cons (V.int IntKind.u64 ((x.snd.rings.get ((0 : Nat) + (Int.toNat (x.snd.threads.get ((0 : Nat) + (Int.toNat x.fst))).Ring))).x.s.x.l.get i2).Value) (V.cons (V.int IntKind.i64 ((x.snd.rings.get ((0 : Nat) + (Int.toNat (x.snd.threads.get ((0 : Nat) + (Int.toNat x.fst))).Ring))).x.s.x.l.get i2).Left) V.unit))))) (V.cons (V.int IntKind.i64 (x.snd.rings.get ((0 : Nat) + (Int.toNat (x.snd.threads.get ((0 : Nat) + (Int.toNat x.fst))).Ring))).x.s.x.readers) V.unit))) (V.cons (V.int IntKind.u64 (x.snd.rings.get ((0 : Nat) + (Int.toNat (x.snd.threads.get ((0 : Nat) + (Int.toNat x.fst))).Ring))).x.most) (V.cons (V.bool (x.snd.rings.get ((0 : Nat) + (Int.toNat (x.snd.threads.get ((0 : Nat) + (Int.toNat x.fst))).Ring))).x.closed) V.unit)))))))) <|
   (.need ((true && true) && (Nat.beq x.snd.rings.n x.snd.rings.n)) <|
   (.ret ((ilt (x.snd.threads.get ((0 : Nat) + (Int.toNat x.fst))).Ticket y1), (TFabric_Fabric.mk x.snd.p x.snd.threads x.snd.rings x.snd.now x.snd.reads x.snd.ended)))
   )
   )
   )
   )
   )
   )
   )
   )
   (.ret (true, (TFabric_Fabric.mk x.snd.p x.snd.threads x.snd.rings x.snd.now x.snd.reads x.snd.ended)))
  )
 )
 )
 )
 )
theorem sd_fabric_Fabric_pending (x : X_fabric_Fabric_pending) : (tt_fabric_Fabric_pending x).Sides :=
  (TT.s_need (TT.s_need (TT.s_need (TT.s_ite (TT.s_need (TT.s_need (TT.s_call fun _ => (TT.s_need (TT.s_side ⟨rfl, ⟨rfl, rfl⟩⟩ (TT.s_need TT.s_ret)))))) (TT.s_ite (TT.s_need (TT.s_need (TT.s_need (TT.s_need (TT.s_call fun _ => (TT.s_need (TT.s_side ⟨rfl, ⟨rfl, rfl⟩⟩ (TT.s_need TT.s_ret)))))))) TT.s_ret)))))
theorem roT_fabric_Fabric_pending (x : X_fabric_Fabric_pending) : TT.Ro p_fabric_Fabric_pending (w_fabric_Fabric_pending x) (tt_fabric_Fabric_pending x) :=
  (TT.ro_need (TT.ro_need (TT.ro_need (TT.ro_ite (TT.ro_need (TT.ro_need (TT.ro_call fun _ => (TT.ro_need (TT.ro_side (TT.ro_need (TT.ro_ret rfl))))))) (TT.ro_ite (TT.ro_need (TT.ro_need (TT.ro_need (TT.ro_need (TT.ro_call fun _ => (TT.ro_need (TT.ro_side (TT.ro_need (TT.ro_ret rfl))))))))) (TT.ro_ret rfl))))))

noncomputable def D_fabric_Fabric_pending : Dyn X_fabric_Fabric_pending R_fabric_Fabric_pending := .ro (.of tt_fabric_Fabric_pending) (fun y => (y.1)) (fun y x => (y, x.2)) fun x y h => congrArg (fun o => (y.1, o)) (roT_fabric_Fabric_pending x y h)
noncomputable def con_fabric_Fabric_pending : Con Tryz.prog :=
  mkConP 78 J_fabric_Fabric_pending S_fabric_Fabric_pending (.of tt_fabric_Fabric_pending) D_fabric_Fabric_pending (fun y x => (y, x.2)) (fun _ _ h => h) (fun y => V.bool y) 2 1 [.any, .any] (by kernel_rfl) (by kernel_rfl) (by kernel_rfl) (lab_ok mixed_ok labs_nil 4000 (fun x => by kernel_rfl) sd_fabric_Fabric_pending) rfl rfl (fun _ => rfl) (by kernel_rfl) rfl (fun _ _ => rfl) (fun _ => rfl) (fun x => ⟨(nu_e_TFabric_Fabric : ∀ y, (e_TFabric_Fabric y).NoU) (x.2), trivial⟩)

/-! slices.Clone[[]uint64,uint64] (slices_Clone_uint64) -/
abbrev X_slices_Clone_uint64 : Type := (Sl Int)
abbrev R_slices_Clone_uint64 : Type := (Sl Int)
noncomputable def J_slices_Clone_uint64 : Job Tryz.prog :=
  job Tryz.prog Tryz.f53 8 [(6, 1)] [] [] [.shut 2] [hsl_u64] [] [] R_slices_Clone_uint64 [] fun y => [esl_u64 y]
noncomputable def S_slices_Clone_uint64 : LabS :=
  lab0 Tryz.f53 1 0 X_slices_Clone_uint64 (fun x => [esl_u64 x]) fun l => (dsl_u64 (at_ l 0))
noncomputable def tt_slices_Clone_uint64 (x : X_slices_Clone_uint64) : TT Tryz.prog R_slices_Clone_uint64 :=
 (.ite x.nil
  (.ret (Sl.mk true 0 (fun _i1 => (0 : Int))))
  (.need (true && (room ((0 : Nat) + x.n) 8)) <|
  (.ret (Sl.mk (cond (Nat.beq x.n 0) false false) ((0 : Nat) + x.n) (fun i1 => (cond (Nat.blt i1 0) (0 : Int) (x.get (i1 - 0))))))
  )
 )
theorem sd_slices_Clone_uint64 (x : X_slices_Clone_uint64) : (tt_slices_Clone_uint64 x).Sides :=
  (TT.s_ite TT.s_ret (TT.s_need TT.s_ret))

noncomputable def D_slices_Clone_uint64 : Dyn X_slices_Clone_uint64 R_slices_Clone_uint64 := .of tt_slices_Clone_uint64
noncomputable def con_slices_Clone_uint64 : Con Tryz.prog :=
  mkCon 53 J_slices_Clone_uint64 S_slices_Clone_uint64 D_slices_Clone_uint64 D_slices_Clone_uint64 (fun _ _ h => h) 1 0 [hsl_u64] (by kernel_rfl) (by kernel_rfl) (by kernel_rfl) (lab_ok mixed_ok labs_nil 4000 (fun x => by kernel_rfl) sd_slices_Clone_uint64) rfl rfl (fun _ => rfl) (by kernel_rfl) rfl (fun _ => rfl) (fun x y _ => by kernel_rfl)

/-! fabric.Load (fabric_Load) -/
abbrev X_fabric_Load : Type := TApi_Program × TApi_State
abbrev R_fabric_Load : Type := (Bx TFabric_Fabric) × Int
noncomputable def J_fabric_Load : Job Tryz.prog :=
  job Tryz.prog Tryz.f37 123 [(2, 3), (3, 3), (12, 1), (64, 1), (122, 1)] [(6, [.open_ 6]), (8, [.close (.loc 68 0)]), (9, [.close (.loc 68 0)]), (10, [.close (.loc 68 0)]), (11, [.close (.loc 68 0)]), (12, [.close (.loc 68 0)]), (13, [.close (.loc 68 0)]), (14, [.close (.loc 68 0)]), (15, [.close (.loc 103 0), .close (.loc 68 0)]), (16, [.close (.loc 103 0), .close (.loc 68 0)]), (17, [.close (.loc 103 0), .close (.loc 68 0)]), (18, [.close (.loc 103 0), .close (.loc 68 0)]), (19, [.close (.loc 103 0), .close (.loc 68 0)]), (20, [.close (.loc 103 0), .close (.loc 68 0)]), (21, [.close (.loc 103 0), .close (.loc 68 0)]), (22, [.close (.loc 103 0), .close (.loc 68 0)])] [(10, [.opn (.loc 6 1) [.fld 2 3] 68]), (18, [.opn (.loc 6 1) [.fld 1 2] 103])] [.close (.loc 103 0), .close (.loc 68 0), .shut 4] [hbox_TFabric_Fabric, .any] [] [con_fabric_Fabric_pending, con_fabric_New, con_ring_Load, con_slices_Clone_uint64, con_thread_Right] R_fabric_Load [(0, [⟨.loc 68 0, .loc 6 1, [.fld 2 3], none, none⟩, ⟨.loc 103 0, .loc 6 1, [.fld 1 2], none, none⟩]), (6, [⟨.loc 68 0, .loc 6 1, [.fld 2 3], none, none⟩, ⟨.loc 103 0, .loc 6 1, [.fld 1 2], none, none⟩]), (8, [⟨.loc 68 0, .loc 6 1, [.fld 2 3], none, none⟩, ⟨.loc 103 0, .loc 6 1, [.fld 1 2], none, none⟩]), (13, [⟨.loc 68 0, .loc 6 1, [.fld 2 3], none, none⟩, ⟨.loc 103 0, .loc 6 1, [.fld 1 2], none, none⟩]), (14, [⟨.loc 68 0, .loc 6 1, [.fld 2 3], none, none⟩, ⟨.loc 103 0, .loc 6 1, [.fld 1 2], none, none⟩]), (15, [⟨.loc 68 0, .loc 6 1, [.fld 2 3], none, none⟩, ⟨.loc 103 0, .loc 6 1, [.fld 1 2], none, none⟩]), (21, [⟨.loc 68 0, .loc 6 1, [.fld 2 3], none, none⟩, ⟨.loc 103 0, .loc 6 1, [.fld 1 2], none, none⟩])] fun y => [V.tup (V.cons (ebox_TFabric_Fabric y.1) (V.cons ((V.int .i64) y.2) (V.unit)))]
noncomputable def S_fabric_Load : LabS :=
  lab0 Tryz.f37 2 0 X_fabric_Load (fun x => [e_TApi_Program x.1, e_TApi_State x.2]) fun l => (d_TApi_Program (at_ l 0), d_TApi_State (at_ l 1))
structure X_fabric_Load_6 where
  p_2 : TApi_Program
  s_3 : TApi_State
  n_6 : TFabric_Fabric
noncomputable def S_fabric_Load_6 : LabS :=
  labAt Tryz.f37 6 [(2, .any), (3, .any), (6, .any)] [] [(.loc 6 1, sh_TFabric_Fabric)] X_fabric_Load_6 (fun x => [(eVp e_TApi_Program) x.p_2, (eVp e_TApi_State) x.s_3, (V.ptr (.loc 6 1) []), e_TFabric_Fabric x.n_6]) fun l => ⟨(dVp d_TApi_Program) (at_ l 0), (dVp d_TApi_State) (at_ l 1), d_TFabric_Fabric (at_ l 3)⟩
structure X_fabric_Load_8 where
  p_2 : TApi_Program
  s_3 : TApi_State
  q_57 : (Sl TApi_RingState)
  q_58 : Int
  q_59 : Int
  n_6 : TFabric_Fabric
noncomputable def S_fabric_Load_8 : LabS :=
  labAt Tryz.f37 8 [(2, .any), (3, .any), (6, .any), (57, hsl_TApi_RingState), (58, .any), (59, .any)] [] [(.loc 6 1, sh_TFabric_Fabric)] X_fabric_Load_8 (fun x => [(eVp e_TApi_Program) x.p_2, (eVp e_TApi_State) x.s_3, (V.ptr (.loc 6 1) []), esl_TApi_RingState x.q_57, (V.int .i64) x.q_58, (V.int .i64) x.q_59, e_TFabric_Fabric x.n_6]) fun l => ⟨(dVp d_TApi_Program) (at_ l 0), (dVp d_TApi_State) (at_ l 1), dsl_TApi_RingState (at_ l 3), dI (at_ l 4), dI (at_ l 5), d_TFabric_Fabric (at_ l 6)⟩
structure X_fabric_Load_13 where
  p_2 : TApi_Program
  s_3 : TApi_State
  q_57 : (Sl TApi_RingState)
  q_58 : Int
  q_59 : Int
  n_6 : TFabric_Fabric
noncomputable def S_fabric_Load_13 : LabS :=
  labAt Tryz.f37 13 [(2, .any), (3, .any), (6, .any), (57, hsl_TApi_RingState), (58, .any), (59, .any)] [] [(.loc 6 1, sh_TFabric_Fabric)] X_fabric_Load_13 (fun x => [(eVp e_TApi_Program) x.p_2, (eVp e_TApi_State) x.s_3, (V.ptr (.loc 6 1) []), esl_TApi_RingState x.q_57, (V.int .i64) x.q_58, (V.int .i64) x.q_59, e_TFabric_Fabric x.n_6]) fun l => ⟨(dVp d_TApi_Program) (at_ l 0), (dVp d_TApi_State) (at_ l 1), dsl_TApi_RingState (at_ l 3), dI (at_ l 4), dI (at_ l 5), d_TFabric_Fabric (at_ l 6)⟩
structure X_fabric_Load_14 where
  p_2 : TApi_Program
  s_3 : TApi_State
  n_6 : TFabric_Fabric
noncomputable def S_fabric_Load_14 : LabS :=
  labAt Tryz.f37 14 [(2, .any), (3, .any), (6, .any)] [] [(.loc 6 1, sh_TFabric_Fabric)] X_fabric_Load_14 (fun x => [(eVp e_TApi_Program) x.p_2, (eVp e_TApi_State) x.s_3, (V.ptr (.loc 6 1) []), e_TFabric_Fabric x.n_6]) fun l => ⟨(dVp d_TApi_Program) (at_ l 0), (dVp d_TApi_State) (at_ l 1), d_TFabric_Fabric (at_ l 3)⟩
structure X_fabric_Load_15 where
  p_2 : TApi_Program
  q_89 : (Sl TApi_ThreadState)
  q_90 : Int
  q_91 : Int
  n_6 : TFabric_Fabric
noncomputable def S_fabric_Load_15 : LabS :=
  labAt Tryz.f37 15 [(2, .any), (6, .any), (89, hsl_TApi_ThreadState), (90, .any), (91, .any)] [] [(.loc 6 1, sh_TFabric_Fabric)] X_fabric_Load_15 (fun x => [(eVp e_TApi_Program) x.p_2, (V.ptr (.loc 6 1) []), esl_TApi_ThreadState x.q_89, (V.int .i64) x.q_90, (V.int .i64) x.q_91, e_TFabric_Fabric x.n_6]) fun l => ⟨(dVp d_TApi_Program) (at_ l 0), dsl_TApi_ThreadState (at_ l 2), dI (at_ l 3), dI (at_ l 4), d_TFabric_Fabric (at_ l 5)⟩
structure X_fabric_Load_21 where
  p_2 : TApi_Program
  q_89 : (Sl TApi_ThreadState)
  q_90 : Int
  q_91 : Int
  n_6 : TFabric_Fabric
noncomputable def S_fabric_Load_21 : LabS :=
  labAt Tryz.f37 21 [(2, .any), (6, .any), (89, hsl_TApi_ThreadState), (90, .any), (91, .any)] [] [(.loc 6 1, sh_TFabric_Fabric)] X_fabric_Load_21 (fun x => [(eVp e_TApi_Program) x.p_2, (V.ptr (.loc 6 1) []), esl_TApi_ThreadState x.q_89, (V.int .i64) x.q_90, (V.int .i64) x.q_91, e_TFabric_Fabric x.n_6]) fun l => ⟨(dVp d_TApi_Program) (at_ l 0), dsl_TApi_ThreadState (at_ l 2), dI (at_ l 3), dI (at_ l 4), d_TFabric_Fabric (at_ l 5)⟩
noncomputable def tt_fabric_Load_21 (D_fabric_Load_15 : Dyn X_fabric_Load_15 R_fabric_Load) (x : X_fabric_Load_21) : TT Tryz.prog R_fabric_Load :=
 (.jump S_fabric_Load_15 D_fabric_Load_15 (X_fabric_Load_15.mk x.p_2 x.q_89 x.q_90 (IntKind.i64.wrap (x.q_91 + 1)) (TFabric_Fabric.mk x.n_6.p x.n_6.threads x.n_6.rings x.n_6.now x.n_6.reads x.n_6.ended)))
theorem sd_fabric_Load_21 (D_fabric_Load_15 : Dyn X_fabric_Load_15 R_fabric_Load) (x : X_fabric_Load_21) : (tt_fabric_Load_21 D_fabric_Load_15 x).Sides :=
  TT.s_jump

noncomputable def D_fabric_Load_21 (D_fabric_Load_15 : Dyn X_fabric_Load_15 R_fabric_Load) : Dyn X_fabric_Load_21 R_fabric_Load := .of (tt_fabric_Load_21 D_fabric_Load_15)
theorem ok_fabric_Load_21 (D_fabric_Load_15 : Dyn X_fabric_Load_15 R_fabric_Load) (h_15 : LabOK J_fabric_Load S_fabric_Load_15 D_fabric_Load_15) : LabOK J_fabric_Load S_fabric_Load_21 (D_fabric_Load_21 D_fabric_Load_15) :=
  lab_ok mixed_ok (labs_cons2 h_15 rfl labs_nil) 4000 (fun x => by kernel_rfl) (sd_fabric_Load_21 D_fabric_Load_15)
noncomputable def tt_fabric_Load_15 (D_fabric_Load_15 : Dyn X_fabric_Load_15 R_fabric_Load) (x : X_fabric_Load_15) : TT Tryz.prog R_fabric_Load :=
 (.ite (ilt x.q_91 x.q_90)
  (.need (inb x.q_91 x.q_89.n) <|
  (.call con_slices_Clone_uint64 (x.q_89.get (Int.toNat x.q_91)).Seen fun (y2 : R_slices_Clone_uint64) =>
  (.need (inb x.q_91 x.n_6.threads.n) <|
  (.need ((Nat.beq x.n_6.threads.n x.n_6.threads.n) && true) <|
  (.need ((true && true) && (Nat.beq x.n_6.threads.n x.n_6.threads.n)) <|
  (.need (inb x.q_91 x.p_2.Threads.n) <|
  (.call con_thread_Right ((x.p_2.Threads.get (Int.toNat x.q_91)), (TApi_ThreadState.mk (x.q_89.get (Int.toNat x.q_91)).At (x.q_89.get (Int.toNat x.q_91)).Phase (x.q_89.get (Int.toNat x.q_91)).Ring (x.q_89.get (Int.toNat x.q_91)).Status (x.q_89.get (Int.toNat x.q_91)).Ticket (x.q_89.get (Int.toNat x.q_91)).Regs y2)) fun (y3 : R_thread_Right) =>
  (.ite (!y3)
   (.ret ((Bx.mk true (TFabric_Fabric.mk (TApi_Program.mk (Sl.mk true 0 (fun _i4 => (TApi_Ring.mk 0 0 0))) (Sl.mk true 0 (fun _i4 => (Sl.mk true 0 (fun _i5 => (TApi_Instr.mk 0 0 0 0 0 0)))))) (Sl.mk true 0 (fun _i4 => (TApi_ThreadState.mk 0 0 0 0 0 (fun _i5 => (0 : Int)) (Sl.mk true 0 (fun _i5 => (0 : Int)))))) (Sl.mk true 0 (fun _i4 => (Bx.mk true (TRing_Ring.mk (TRing_cursors.mk 0 (Sl.mk true 0 (fun _i5 => (0 : Int)))) (Bx.mk true (TSlots_Slots.mk (Sl.mk true 0 (fun _i5 => (TApi_Slot.mk 0 0 0))) 0)) 0 false)))) 0 0 false)), 3))
   (.call con_fabric_Fabric_pending (x.q_91, (TFabric_Fabric.mk x.n_6.p (Sl.mk x.n_6.threads.nil x.n_6.threads.n (fun i4 => (TApi_ThreadState.mk (cond (Nat.beq i4 ((0 : Nat) + (Int.toNat x.q_91))) (x.q_89.get (Int.toNat x.q_91)).At (x.n_6.threads.get i4).At) (cond (Nat.beq i4 ((0 : Nat) + (Int.toNat x.q_91))) (x.q_89.get (Int.toNat x.q_91)).Phase (x.n_6.threads.get i4).Phase) (cond (Nat.beq i4 ((0 : Nat) + (Int.toNat x.q_91))) (x.q_89.get (Int.toNat x.q_91)).Ring (x.n_6.threads.get i4).Ring) (cond (Nat.beq i4 ((0 : Nat) + (Int.toNat x.q_91))) (x.q_89.get (Int.toNat x.q_91)).Status (x.n_6.threads.get i4).Status) (cond (Nat.beq i4 ((0 : Nat) + (Int.toNat x.q_91))) (x.q_89.get (Int.toNat x.q_91)).Ticket (x.n_6.threads.get i4).Ticket) (fun i5 => (cond (Nat.beq i4 ((0 : Nat) + (Int.toNat x.q_91))) ((x.q_89.get (Int.toNat x.q_91)).Regs i5) ((x.n_6.threads.get i4).Regs i5))) (Sl.mk (cond (Nat.beq i4 ((0 : Nat) + (Int.toNat x.q_91))) y2.nil (x.n_6.threads.get i4).Seen.nil) (cond (Nat.beq i4 ((0 : Nat) + (Int.toNat x.q_91))) y2.n (x.n_6.threads.get i4).Seen.n) (fun i5 => (cond (Nat.beq i4 ((0 : Nat) + (Int.toNat x.q_91))) (y2.get i5) ((x.n_6.threads.get i4).Seen.get i5))))))) x.n_6.rings x.n_6.now x.n_6.reads x.n_6.ended)) fun (y4 : R_fabric_Fabric_pending) =>
   (.ite (!y4)
    (.ret ((Bx.mk true (TFabric_Fabric.mk (TApi_Program.mk (Sl.mk true 0 (fun _i5 => (TApi_Ring.mk 0 0 0))) (Sl.mk true 0 (fun _i5 => (Sl.mk true 0 (fun _i6 => (TApi_Instr.mk 0 0 0 0 0 0)))))) (Sl.mk true 0 (fun _i5 => (TApi_ThreadState.mk 0 0 0 0 0 (fun _i6 => (0 : Int)) (Sl.mk true 0 (fun _i6 => (0 : Int)))))) (Sl.mk true 0 (fun _i5 => (Bx.mk true (TRing_Ring.mk (TRing_cursors.mk 0 (Sl.mk true 0 (fun _i6 => (0 : Int)))) (Bx.mk true (TSlots_Slots.mk (Sl.mk true 0 (fun _i6 => (TApi_Slot.mk 0 0 0))) 0)) 0 false)))) 0 0 false)), 3))
    (.jump S_fabric_Load_21 (D_fabric_Load_21 D_fabric_Load_15) (X_fabric_Load_21.mk x.p_2 x.q_89 x.q_90 x.q_91 (TFabric_Fabric.mk x.n_6.p (Sl.mk x.n_6.threads.nil x.n_6.threads.n (fun i5 => (TApi_ThreadState.mk (cond (Nat.beq i5 ((0 : Nat) + (Int.toNat x.q_91))) (x.q_89.get (Int.toNat x.q_91)).At (x.n_6.threads.get i5).At) (cond (Nat.beq i5 ((0 : Nat) + (Int.toNat x.q_91))) (x.q_89.get (Int.toNat x.q_91)).Phase (x.n_6.threads.get i5).Phase) (cond (Nat.beq i5 ((0 : Nat) + (Int.toNat x.q_91))) (x.q_89.get (Int.toNat x.q_91)).Ring (x.n_6.threads.get i5).Ring) (cond (Nat.beq i5 ((0 : Nat) + (Int.toNat x.q_91))) (x.q_89.get (Int.toNat x.q_91)).Status (x.n_6.threads.get i5).Status) (cond (Nat.beq i5 ((0 : Nat) + (Int.toNat x.q_91))) (x.q_89.get (Int.toNat x.q_91)).Ticket (x.n_6.threads.get i5).Ticket) (fun i6 => (cond (Nat.beq i5 ((0 : Nat) + (Int.toNat x.q_91))) ((x.q_89.get (Int.toNat x.q_91)).Regs i6) ((x.n_6.threads.get i5).Regs i6))) (Sl.mk (cond (Nat.beq i5 ((0 : Nat) + (Int.toNat x.q_91))) y2.nil (x.n_6.threads.get i5).Seen.nil) (cond (Nat.beq i5 ((0 : Nat) + (Int.toNat x.q_91))) y2.n (x.n_6.threads.get i5).Seen.n) (fun i6 => (cond (Nat.beq i5 ((0 : Nat) + (Int.toNat x.q_91))) (y2.get i6) ((x.n_6.threads.get i5).Seen.get i6))))))) x.n_6.rings x.n_6.now x.n_6.reads x.n_6.ended)))
   )
   )
  )
  )
  )
  )
  )
  )
  )
  )
  (.ret ((Bx.mk false (TFabric_Fabric.mk x.n_6.p x.n_6.threads x.n_6.rings x.n_6.now x.n_6.reads x.n_6.ended)), 0))
 )
theorem sd_fabric_Load_15 (D_fabric_Load_15 : Dyn X_fabric_Load_15 R_fabric_Load) (x : X_fabric_Load_15) : (tt_fabric_Load_15 D_fabric_Load_15 x).Sides :=
  (TT.s_ite (TT.s_need (TT.s_call fun _ => (TT.s_need (TT.s_need (TT.s_need (TT.s_need (TT.s_call fun _ => (TT.s_ite TT.s_ret (TT.s_call fun _ => (TT.s_ite TT.s_ret TT.s_jump)))))))))) TT.s_ret)

noncomputable def D_fabric_Load_15 : Dyn X_fabric_Load_15 R_fabric_Load := Dyn.loop tt_fabric_Load_15
theorem ok_fabric_Load_15 : LabOK J_fabric_Load S_fabric_Load_15 D_fabric_Load_15 :=
  loop_ok fun D_fabric_Load_15 h_15 => lab_ok mixed_ok (labs_cons2 h_15 rfl (labs_cons2 (ok_fabric_Load_21 D_fabric_Load_15 h_15) rfl labs_nil)) 4000 (fun x => by kernel_rfl) (sd_fabric_Load_15 D_fabric_Load_15)
noncomputable def tt_fabric_Load_14 (x : X_fabric_Load_14) : TT Tryz.prog R_fabric_Load :=
 (.jump S_fabric_Load_15 D_fabric_Load_15 (X_fabric_Load_15.mk x.p_2 x.s_3.Threads ((x.s_3.Threads.n : Nat) : Int) 0 (TFabric_Fabric.mk x.n_6.p x.n_6.threads x.n_6.rings x.n_6.now x.n_6.reads x.n_6.ended)))
theorem sd_fabric_Load_14 (x : X_fabric_Load_14) : (tt_fabric_Load_14 x).Sides :=
  TT.s_jump

noncomputable def D_fabric_Load_14 : Dyn X_fabric_Load_14 R_fabric_Load := .of tt_fabric_Load_14
theorem ok_fabric_Load_14 : LabOK J_fabric_Load S_fabric_Load_14 D_fabric_Load_14 :=
  lab_ok mixed_ok (labs_cons2 ok_fabric_Load_15 rfl labs_nil) 4000 (fun x => by kernel_rfl) sd_fabric_Load_14
noncomputable def tt_fabric_Load_13 (D_fabric_Load_8 : Dyn X_fabric_Load_8 R_fabric_Load) (x : X_fabric_Load_13) : TT Tryz.prog R_fabric_Load :=
 (.jump S_fabric_Load_8 D_fabric_Load_8 (X_fabric_Load_8.mk x.p_2 x.s_3 x.q_57 x.q_58 (IntKind.i64.wrap (x.q_59 + 1)) (TFabric_Fabric.mk x.n_6.p x.n_6.threads x.n_6.rings x.n_6.now x.n_6.reads x.n_6.ended)))
theorem sd_fabric_Load_13 (D_fabric_Load_8 : Dyn X_fabric_Load_8 R_fabric_Load) (x : X_fabric_Load_13) : (tt_fabric_Load_13 D_fabric_Load_8 x).Sides :=
  TT.s_jump

noncomputable def D_fabric_Load_13 (D_fabric_Load_8 : Dyn X_fabric_Load_8 R_fabric_Load) : Dyn X_fabric_Load_13 R_fabric_Load := .of (tt_fabric_Load_13 D_fabric_Load_8)
theorem ok_fabric_Load_13 (D_fabric_Load_8 : Dyn X_fabric_Load_8 R_fabric_Load) (h_8 : LabOK J_fabric_Load S_fabric_Load_8 D_fabric_Load_8) : LabOK J_fabric_Load S_fabric_Load_13 (D_fabric_Load_13 D_fabric_Load_8) :=
  lab_ok mixed_ok (labs_cons2 h_8 rfl (labs_cons2 ok_fabric_Load_15 rfl (labs_cons2 ok_fabric_Load_14 rfl labs_nil))) 4000 (fun x => by kernel_rfl) (sd_fabric_Load_13 D_fabric_Load_8)
noncomputable def tt_fabric_Load_8 (D_fabric_Load_8 : Dyn X_fabric_Load_8 R_fabric_Load) (x : X_fabric_Load_8) : TT Tryz.prog R_fabric_Load :=
 (.ite (ilt x.q_59 x.q_58)
  (.need (inb x.q_59 x.q_57.n) <|
  (.need (inb x.q_59 x.p_2.Rings.n) <|
  (.call con_ring_Load ((x.p_2.Rings.get (Int.toNat x.q_59)), (x.q_57.get (Int.toNat x.q_59))) fun (y2 : R_ring_Load) =>
  (.need (inb x.q_59 x.n_6.rings.n) <|
  (.need ((Nat.beq x.n_6.rings.n x.n_6.rings.n) && true) <|
  (.need ((true && true) && (Nat.beq x.n_6.rings.n x.n_6.rings.n)) <|
  (.ite (!(ieq y2.snd 0))
   (.ret ((Bx.mk true (TFabric_Fabric.mk (TApi_Program.mk (Sl.mk true 0 (fun _i3 => (TApi_Ring.mk 0 0 0))) (Sl.mk true 0 (fun _i3 => (Sl.mk true 0 (fun _i4 => (TApi_Instr.mk 0 0 0 0 0 0)))))) (Sl.mk true 0 (fun _i3 => (TApi_ThreadState.mk 0 0 0 0 0 (fun _i4 => (0 : Int)) (Sl.mk true 0 (fun _i4 => (0 : Int)))))) (Sl.mk true 0 (fun _i3 => (Bx.mk true (TRing_Ring.mk (TRing_cursors.mk 0 (Sl.mk true 0 (fun _i4 => (0 : Int)))) (Bx.mk true (TSlots_Slots.mk (Sl.mk true 0 (fun _i4 => (TApi_Slot.mk 0 0 0))) 0)) 0 false)))) 0 0 false)), 3))
   (.ite (ile 2305843009213693952 (x.q_57.get (Int.toNat x.q_59)).Tail)
    (.ret ((Bx.mk true (TFabric_Fabric.mk (TApi_Program.mk (Sl.mk true 0 (fun _i3 => (TApi_Ring.mk 0 0 0))) (Sl.mk true 0 (fun _i3 => (Sl.mk true 0 (fun _i4 => (TApi_Instr.mk 0 0 0 0 0 0)))))) (Sl.mk true 0 (fun _i3 => (TApi_ThreadState.mk 0 0 0 0 0 (fun _i4 => (0 : Int)) (Sl.mk true 0 (fun _i4 => (0 : Int)))))) (Sl.mk true 0 (fun _i3 => (Bx.mk true (TRing_Ring.mk (TRing_cursors.mk 0 (Sl.mk true 0 (fun _i4 => (0 : Int)))) (Bx.mk true (TSlots_Slots.mk (Sl.mk true 0 (fun _i4 => (TApi_Slot.mk 0 0 0))) 0)) 0 false)))) 0 0 false)), 3))
    (.jump S_fabric_Load_13 (D_fabric_Load_13 D_fabric_Load_8) (X_fabric_Load_13.mk x.p_2 x.s_3 x.q_57 x.q_58 x.q_59 (TFabric_Fabric.mk x.n_6.p x.n_6.threads (Sl.mk x.n_6.rings.nil x.n_6.rings.n (fun i3 => (Bx.mk (cond (Nat.beq i3 ((0 : Nat) + (Int.toNat x.q_59))) y2.fst.nil (x.n_6.rings.get i3).nil) (TRing_Ring.mk (TRing_cursors.mk (cond (Nat.beq i3 ((0 : Nat) + (Int.toNat x.q_59))) y2.fst.x.cursors.tail (x.n_6.rings.get i3).x.cursors.tail) (Sl.mk (cond (Nat.beq i3 ((0 : Nat) + (Int.toNat x.q_59))) y2.fst.x.cursors.heads.nil (x.n_6.rings.get i3).x.cursors.heads.nil) (cond (Nat.beq i3 ((0 : Nat) + (Int.toNat x.q_59))) y2.fst.x.cursors.heads.n (x.n_6.rings.get i3).x.cursors.heads.n) (fun i4 => (cond (Nat.beq i3 ((0 : Nat) + (Int.toNat x.q_59))) (y2.fst.x.cursors.heads.get i4) ((x.n_6.rings.get i3).x.cursors.heads.get i4))))) (Bx.mk (cond (Nat.beq i3 ((0 : Nat) + (Int.toNat x.q_59))) y2.fst.x.s.nil (x.n_6.rings.get i3).x.s.nil) (TSlots_Slots.mk (Sl.mk (cond (Nat.beq i3 ((0 : Nat) + (Int.toNat x.q_59))) y2.fst.x.s.x.l.nil (x.n_6.rings.get i3).x.s.x.l.nil) (cond (Nat.beq i3 ((0 : Nat) + (Int.toNat x.q_59))) y2.fst.x.s.x.l.n (x.n_6.rings.get i3).x.s.x.l.n) (fun i4 => (TApi_Slot.mk (cond (Nat.beq i3 ((0 : Nat) + (Int.toNat x.q_59))) (y2.fst.x.s.x.l.get i4).Stamp ((x.n_6.rings.get i3).x.s.x.l.get i4).Stamp) (cond (Nat.beq i3 ((0 : Nat) + (Int.toNat x.q_59))) (y2.fst.x.s.x.l.get i4).Value ((x.n_6.rings.get i3).x.s.x.l.get i4).Value) (cond (Nat.beq i3 ((0 : Nat) + (Int.toNat x.q_59))) (y2.fst.x.s.x.l.get i4).Left ((x.n_6.rings.get i3).x.s.x.l.get i4).Left)))) (cond (Nat.beq i3 ((0 : Nat) + (Int.toNat x.q_59))) y2.fst.x.s.x.readers (x.n_6.rings.get i3).x.s.x.readers))) (cond (Nat.beq i3 ((0 : Nat) + (Int.toNat x.q_59))) y2.fst.x.most (x.n_6.rings.get i3).x.most) (cond (Nat.beq i3 ((0 : Nat) + (Int.toNat x.q_59))) y2.fst.x.closed (x.n_6.rings.get i3).x.closed))))) x.n_6.now x.n_6.reads x.n_6.ended)))
   )
  )
  )
  )
  )
  )
  )
  )
  (.jump S_fabric_Load_14 D_fabric_Load_14 (X_fabric_Load_14.mk x.p_2 x.s_3 (TFabric_Fabric.mk x.n_6.p x.n_6.threads x.n_6.rings x.n_6.now x.n_6.reads x.n_6.ended)))
 )
theorem sd_fabric_Load_8 (D_fabric_Load_8 : Dyn X_fabric_Load_8 R_fabric_Load) (x : X_fabric_Load_8) : (tt_fabric_Load_8 D_fabric_Load_8 x).Sides :=
  (TT.s_ite (TT.s_need (TT.s_need (TT.s_call fun _ => (TT.s_need (TT.s_need (TT.s_need (TT.s_ite TT.s_ret (TT.s_ite TT.s_ret TT.s_jump)))))))) TT.s_jump)

noncomputable def D_fabric_Load_8 : Dyn X_fabric_Load_8 R_fabric_Load := Dyn.loop tt_fabric_Load_8
theorem ok_fabric_Load_8 : LabOK J_fabric_Load S_fabric_Load_8 D_fabric_Load_8 :=
  loop_ok fun D_fabric_Load_8 h_8 => lab_ok mixed_ok (labs_cons2 h_8 rfl (labs_cons2 ok_fabric_Load_15 rfl (labs_cons2 ok_fabric_Load_14 rfl (labs_cons2 (ok_fabric_Load_13 D_fabric_Load_8 h_8) rfl labs_nil)))) 4000 (fun x => by kernel_rfl) (sd_fabric_Load_8 D_fabric_Load_8)
noncomputable def tt_fabric_Load_6 (x : X_fabric_Load_6) : TT Tryz.prog R_fabric_Load :=
 (.jump S_fabric_Load_8 D_fabric_Load_8 (X_fabric_Load_8.mk x.p_2 x.s_3 x.s_3.Rings ((x.s_3.Rings.n : Nat) : Int) 0 (TFabric_Fabric.mk x.n_6.p x.n_6.threads x.n_6.rings x.s_3.Now x.s_3.Reads x.s_3.Ended)))
theorem sd_fabric_Load_6 (x : X_fabric_Load_6) : (tt_fabric_Load_6 x).Sides :=
  TT.s_jump

noncomputable def D_fabric_Load_6 : Dyn X_fabric_Load_6 R_fabric_Load := .of tt_fabric_Load_6
theorem ok_fabric_Load_6 : LabOK J_fabric_Load S_fabric_Load_6 D_fabric_Load_6 :=
  lab_ok mixed_ok (labs_cons2 ok_fabric_Load_15 rfl (labs_cons2 ok_fabric_Load_14 rfl (labs_cons2 ok_fabric_Load_8 rfl labs_nil))) 4000 (fun x => by kernel_rfl) sd_fabric_Load_6
noncomputable def tt_fabric_Load (x : X_fabric_Load) : TT Tryz.prog R_fabric_Load :=
 (.call con_fabric_New x.fst fun (y1 : R_fabric_New) =>
 (.ite (!(ieq y1.snd 0))
  (.ret ((Bx.mk true (TFabric_Fabric.mk (TApi_Program.mk (Sl.mk true 0 (fun _i2 => (TApi_Ring.mk 0 0 0))) (Sl.mk true 0 (fun _i2 => (Sl.mk true 0 (fun _i3 => (TApi_Instr.mk 0 0 0 0 0 0)))))) (Sl.mk true 0 (fun _i2 => (TApi_ThreadState.mk 0 0 0 0 0 (fun _i3 => (0 : Int)) (Sl.mk true 0 (fun _i3 => (0 : Int)))))) (Sl.mk true 0 (fun _i2 => (Bx.mk true (TRing_Ring.mk (TRing_cursors.mk 0 (Sl.mk true 0 (fun _i3 => (0 : Int)))) (Bx.mk true (TSlots_Slots.mk (Sl.mk true 0 (fun _i3 => (TApi_Slot.mk 0 0 0))) 0)) 0 false)))) 0 0 false)), y1.snd))
  (.ite (!(ieq ((x.snd.Threads.n : Nat) : Int) ((x.fst.Threads.n : Nat) : Int)))
   (.ret ((Bx.mk true (TFabric_Fabric.mk (TApi_Program.mk (Sl.mk true 0 (fun _i2 => (TApi_Ring.mk 0 0 0))) (Sl.mk true 0 (fun _i2 => (Sl.mk true 0 (fun _i3 => (TApi_Instr.mk 0 0 0 0 0 0)))))) (Sl.mk true 0 (fun _i2 => (TApi_ThreadState.mk 0 0 0 0 0 (fun _i3 => (0 : Int)) (Sl.mk true 0 (fun _i3 => (0 : Int)))))) (Sl.mk true 0 (fun _i2 => (Bx.mk true (TRing_Ring.mk (TRing_cursors.mk 0 (Sl.mk true 0 (fun _i3 => (0 : Int)))) (Bx.mk true (TSlots_Slots.mk (Sl.mk true 0 (fun _i3 => (TApi_Slot.mk 0 0 0))) 0)) 0 false)))) 0 0 false)), 3))
   (.ite (!(ieq ((x.snd.Rings.n : Nat) : Int) ((x.fst.Rings.n : Nat) : Int)))
    (.ret ((Bx.mk true (TFabric_Fabric.mk (TApi_Program.mk (Sl.mk true 0 (fun _i2 => (TApi_Ring.mk 0 0 0))) (Sl.mk true 0 (fun _i2 => (Sl.mk true 0 (fun _i3 => (TApi_Instr.mk 0 0 0 0 0 0)))))) (Sl.mk true 0 (fun _i2 => (TApi_ThreadState.mk 0 0 0 0 0 (fun _i3 => (0 : Int)) (Sl.mk true 0 (fun _i3 => (0 : Int)))))) (Sl.mk true 0 (fun _i2 => (Bx.mk true (TRing_Ring.mk (TRing_cursors.mk 0 (Sl.mk true 0 (fun _i3 => (0 : Int)))) (Bx.mk true (TSlots_Slots.mk (Sl.mk true 0 (fun _i3 => (TApi_Slot.mk 0 0 0))) 0)) 0 false)))) 0 0 false)), 3))
    (.ite (ile 9223372036854775808 x.snd.Now)
     (.ret ((Bx.mk true (TFabric_Fabric.mk (TApi_Program.mk (Sl.mk true 0 (fun _i2 => (TApi_Ring.mk 0 0 0))) (Sl.mk true 0 (fun _i2 => (Sl.mk true 0 (fun _i3 => (TApi_Instr.mk 0 0 0 0 0 0)))))) (Sl.mk true 0 (fun _i2 => (TApi_ThreadState.mk 0 0 0 0 0 (fun _i3 => (0 : Int)) (Sl.mk true 0 (fun _i3 => (0 : Int)))))) (Sl.mk true 0 (fun _i2 => (Bx.mk true (TRing_Ring.mk (TRing_cursors.mk 0 (Sl.mk true 0 (fun _i3 => (0 : Int)))) (Bx.mk true (TSlots_Slots.mk (Sl.mk true 0 (fun _i3 => (TApi_Slot.mk 0 0 0))) 0)) 0 false)))) 0 0 false)), 3))
     (.need (!y1.fst.nil) <|
     (.jump S_fabric_Load_6 D_fabric_Load_6 (X_fabric_Load_6.mk x.fst x.snd (TFabric_Fabric.mk y1.fst.x.p y1.fst.x.threads y1.fst.x.rings y1.fst.x.now y1.fst.x.reads y1.fst.x.ended)))
     )
    )
   )
  )
 )
 )
theorem sd_fabric_Load (x : X_fabric_Load) : (tt_fabric_Load x).Sides :=
  (TT.s_call fun _ => (TT.s_ite TT.s_ret (TT.s_ite TT.s_ret (TT.s_ite TT.s_ret (TT.s_ite TT.s_ret (TT.s_need TT.s_jump))))))

noncomputable def D_fabric_Load : Dyn X_fabric_Load R_fabric_Load := .of tt_fabric_Load
noncomputable def con_fabric_Load : Con Tryz.prog :=
  mkCon 37 J_fabric_Load S_fabric_Load D_fabric_Load D_fabric_Load (fun _ _ h => h) 2 0 [sh_TApi_Program, sh_TApi_State] (by kernel_rfl) (by kernel_rfl) (by kernel_rfl) (lab_ok mixed_ok (labs_cons2 ok_fabric_Load_15 rfl (labs_cons2 ok_fabric_Load_14 rfl (labs_cons2 ok_fabric_Load_8 rfl (labs_cons2 ok_fabric_Load_6 rfl labs_nil)))) 4000 (fun x => by kernel_rfl) sd_fabric_Load) rfl rfl (fun _ => rfl) (by kernel_rfl) rfl (fun _ => rfl) (fun x y _ => by kernel_rfl)

/-! snap.Load (snap_Load) -/
abbrev X_snap_Load : Type := TApi_Program × ByteArray
abbrev R_snap_Load : Type := (Bx TFabric_Fabric) × Int
noncomputable def J_snap_Load : Job Tryz.prog :=
  job Tryz.prog Tryz.f12 29 [(2, 3), (10, 1), (17, 1)] [] [] [.shut 4] [hbox_TFabric_Fabric, .any] [] [con_fabric_Load, con_fabric_New, con_snap_Read] R_snap_Load [] fun y => [V.tup (V.cons (ebox_TFabric_Fabric y.1) (V.cons ((V.int .i64) y.2) (V.unit)))]
noncomputable def S_snap_Load : LabS :=
  lab0 Tryz.f12 2 0 X_snap_Load (fun x => [e_TApi_Program x.1, V.str x.2]) fun l => (d_TApi_Program (at_ l 0), dS (at_ l 1))
noncomputable def tt_snap_Load (x : X_snap_Load) : TT Tryz.prog R_snap_Load :=
 (.call con_fabric_New x.fst fun (y1 : R_fabric_New) =>
 (.ite (!(ieq y1.snd 0))
  (.ret ((Bx.mk true (TFabric_Fabric.mk (TApi_Program.mk (Sl.mk true 0 (fun _i2 => (TApi_Ring.mk 0 0 0))) (Sl.mk true 0 (fun _i2 => (Sl.mk true 0 (fun _i3 => (TApi_Instr.mk 0 0 0 0 0 0)))))) (Sl.mk true 0 (fun _i2 => (TApi_ThreadState.mk 0 0 0 0 0 (fun _i3 => (0 : Int)) (Sl.mk true 0 (fun _i3 => (0 : Int)))))) (Sl.mk true 0 (fun _i2 => (Bx.mk true (TRing_Ring.mk (TRing_cursors.mk 0 (Sl.mk true 0 (fun _i3 => (0 : Int)))) (Bx.mk true (TSlots_Slots.mk (Sl.mk true 0 (fun _i3 => (TApi_Slot.mk 0 0 0))) 0)) 0 false)))) 0 0 false)), 1))
  (.call con_snap_Read x.snd fun (y2 : R_snap_Read) =>
  (.ite (!(ieq y2.snd 0))
   (.ret ((Bx.mk true (TFabric_Fabric.mk (TApi_Program.mk (Sl.mk true 0 (fun _i3 => (TApi_Ring.mk 0 0 0))) (Sl.mk true 0 (fun _i3 => (Sl.mk true 0 (fun _i4 => (TApi_Instr.mk 0 0 0 0 0 0)))))) (Sl.mk true 0 (fun _i3 => (TApi_ThreadState.mk 0 0 0 0 0 (fun _i4 => (0 : Int)) (Sl.mk true 0 (fun _i4 => (0 : Int)))))) (Sl.mk true 0 (fun _i3 => (Bx.mk true (TRing_Ring.mk (TRing_cursors.mk 0 (Sl.mk true 0 (fun _i4 => (0 : Int)))) (Bx.mk true (TSlots_Slots.mk (Sl.mk true 0 (fun _i4 => (TApi_Slot.mk 0 0 0))) 0)) 0 false)))) 0 0 false)), 3))
   (.call con_fabric_Load (x.fst, y2.fst) fun (y3 : R_fabric_Load) =>
   (.ret ((Bx.mk y3.fst.nil (TFabric_Fabric.mk y3.fst.x.p y3.fst.x.threads y3.fst.x.rings y3.fst.x.now y3.fst.x.reads y3.fst.x.ended)), y3.snd))
   )
  )
  )
 )
 )
theorem sd_snap_Load (x : X_snap_Load) : (tt_snap_Load x).Sides :=
  (TT.s_call fun _ => (TT.s_ite TT.s_ret (TT.s_call fun _ => (TT.s_ite TT.s_ret (TT.s_call fun _ => TT.s_ret)))))

noncomputable def D_snap_Load : Dyn X_snap_Load R_snap_Load := .of tt_snap_Load
noncomputable def con_snap_Load : Con Tryz.prog :=
  mkCon 12 J_snap_Load S_snap_Load D_snap_Load D_snap_Load (fun _ _ h => h) 2 0 [sh_TApi_Program, .any] (by kernel_rfl) (by kernel_rfl) (by kernel_rfl) (lab_ok mixed_ok labs_nil 4000 (fun x => by kernel_rfl) sd_snap_Load) rfl rfl (fun _ => rfl) (by kernel_rfl) rfl (fun _ => rfl) (fun x y _ => by kernel_rfl)

/-! slices.Equal[[]uint64,uint64] (slices_Equal_uint64) -/
abbrev X_slices_Equal_uint64 : Type := (Sl Int) × (Sl Int)
abbrev R_slices_Equal_uint64 : Type := Bool
noncomputable def J_slices_Equal_uint64 : Job Tryz.prog :=
  job Tryz.prog Tryz.f137 26 [] [] [] [] [.any] [] [] R_slices_Equal_uint64 [] fun y => [V.bool y]
noncomputable def S_slices_Equal_uint64 : LabS :=
  lab0 Tryz.f137 2 0 X_slices_Equal_uint64 (fun x => [esl_u64 x.1, esl_u64 x.2]) fun l => (dsl_u64 (at_ l 0), dsl_u64 (at_ l 1))
structure X_slices_Equal_uint64_4 where
  s1_0 : (Sl Int)
  s2_1 : (Sl Int)
  q_12 : Int
  q_13 : Int
noncomputable def S_slices_Equal_uint64_4 : LabS :=
  labAt Tryz.f137 4 [(0, hsl_u64), (1, hsl_u64), (12, .any), (13, .any)] [] [] X_slices_Equal_uint64_4 (fun x => [esl_u64 x.s1_0, esl_u64 x.s2_1, (V.int .i64) x.q_12, (V.int .i64) x.q_13]) fun l => ⟨dsl_u64 (at_ l 0), dsl_u64 (at_ l 1), dI (at_ l 2), dI (at_ l 3)⟩
noncomputable def tt_slices_Equal_uint64_4 (D_slices_Equal_uint64_4 : Dyn X_slices_Equal_uint64_4 R_slices_Equal_uint64) (x : X_slices_Equal_uint64_4) : TT Tryz.prog R_slices_Equal_uint64 :=
 (.ite (ilt x.q_13 x.q_12)
  (.need (inb x.q_13 x.s1_0.n) <|
  (.need (inb x.q_13 x.s2_1.n) <|
  (.ite (!(ieq (x.s1_0.get (Int.toNat x.q_13)) (x.s2_1.get (Int.toNat x.q_13))))
   (.ret false)
   (.jump S_slices_Equal_uint64_4 D_slices_Equal_uint64_4 (X_slices_Equal_uint64_4.mk x.s1_0 x.s2_1 x.q_12 (IntKind.i64.wrap (x.q_13 + 1))))
  )
  )
  )
  (.ret true)
 )
theorem sd_slices_Equal_uint64_4 (D_slices_Equal_uint64_4 : Dyn X_slices_Equal_uint64_4 R_slices_Equal_uint64) (x : X_slices_Equal_uint64_4) : (tt_slices_Equal_uint64_4 D_slices_Equal_uint64_4 x).Sides :=
  (TT.s_ite (TT.s_need (TT.s_need (TT.s_ite TT.s_ret TT.s_jump))) TT.s_ret)

noncomputable def D_slices_Equal_uint64_4 : Dyn X_slices_Equal_uint64_4 R_slices_Equal_uint64 := Dyn.loop tt_slices_Equal_uint64_4
theorem ok_slices_Equal_uint64_4 : LabOK J_slices_Equal_uint64 S_slices_Equal_uint64_4 D_slices_Equal_uint64_4 :=
  loop_ok fun D_slices_Equal_uint64_4 h_4 => lab_ok mixed_ok (labs_cons2 h_4 rfl labs_nil) 4000 (fun x => by kernel_rfl) (sd_slices_Equal_uint64_4 D_slices_Equal_uint64_4)
noncomputable def tt_slices_Equal_uint64 (x : X_slices_Equal_uint64) : TT Tryz.prog R_slices_Equal_uint64 :=
 (.ite (!(ieq ((x.fst.n : Nat) : Int) ((x.snd.n : Nat) : Int)))
  (.ret false)
  (.jump S_slices_Equal_uint64_4 D_slices_Equal_uint64_4 (X_slices_Equal_uint64_4.mk x.fst x.snd ((x.fst.n : Nat) : Int) 0))
 )
theorem sd_slices_Equal_uint64 (x : X_slices_Equal_uint64) : (tt_slices_Equal_uint64 x).Sides :=
  (TT.s_ite TT.s_ret TT.s_jump)

noncomputable def D_slices_Equal_uint64 : Dyn X_slices_Equal_uint64 R_slices_Equal_uint64 := .of tt_slices_Equal_uint64
noncomputable def con_slices_Equal_uint64 : Con Tryz.prog :=
  mkCon 137 J_slices_Equal_uint64 S_slices_Equal_uint64 D_slices_Equal_uint64 D_slices_Equal_uint64 (fun _ _ h => h) 2 0 [hsl_u64, hsl_u64] (by kernel_rfl) (by kernel_rfl) (by kernel_rfl) (lab_ok mixed_ok (labs_cons2 ok_slices_Equal_uint64_4 rfl labs_nil) 4000 (fun x => by kernel_rfl) sd_slices_Equal_uint64) rfl rfl (fun _ => rfl) (by kernel_rfl) rfl (fun _ => rfl) (fun x y _ => by kernel_rfl)

/-! thread.Same (thread_Same) -/
abbrev X_thread_Same : Type := TApi_ThreadState × TApi_ThreadState
abbrev R_thread_Same : Type := Bool
noncomputable def J_thread_Same : Job Tryz.prog :=
  job Tryz.prog Tryz.f86 52 [(2, 3), (3, 3)] [] [] [] [.any] [] [con_slices_Equal_uint64] R_thread_Same [] fun y => [V.bool y]
noncomputable def S_thread_Same : LabS :=
  lab0 Tryz.f86 2 0 X_thread_Same (fun x => [e_TApi_ThreadState x.1, e_TApi_ThreadState x.2]) fun l => (d_TApi_ThreadState (at_ l 0), d_TApi_ThreadState (at_ l 1))
noncomputable def tt_thread_Same (x : X_thread_Same) : TT Tryz.prog R_thread_Same :=
 (.ite (ieq x.fst.At x.snd.At)
  (.ite (ieq x.fst.Phase x.snd.Phase)
   (.ite (ieq x.fst.Ring x.snd.Ring)
    (.ite (ieq x.fst.Status x.snd.Status)
     (.ite (ieq x.fst.Ticket x.snd.Ticket)
      (.ite ((ieq (x.fst.Regs 0) (x.snd.Regs 0)) && ((ieq (x.fst.Regs 1) (x.snd.Regs 1)) && ((ieq (x.fst.Regs 2) (x.snd.Regs 2)) && ((ieq (x.fst.Regs 3) (x.snd.Regs 3)) && ((ieq (x.fst.Regs 4) (x.snd.Regs 4)) && ((ieq (x.fst.Regs 5) (x.snd.Regs 5)) && ((ieq (x.fst.Regs 6) (x.snd.Regs 6)) && ((ieq (x.fst.Regs 7) (x.snd.Regs 7)) && true))))))))
       (.call con_slices_Equal_uint64 (x.fst.Seen, x.snd.Seen) fun (y1 : R_slices_Equal_uint64) =>
       (.ret y1)
       )
       (.ret false)
      )
      (.ret false)
     )
     (.ret false)
    )
    (.ret false)
   )
   (.ret false)
  )
  (.ret false)
 )
theorem sd_thread_Same (x : X_thread_Same) : (tt_thread_Same x).Sides :=
  (TT.s_ite (TT.s_ite (TT.s_ite (TT.s_ite (TT.s_ite (TT.s_ite (TT.s_call fun _ => TT.s_ret) TT.s_ret) TT.s_ret) TT.s_ret) TT.s_ret) TT.s_ret) TT.s_ret)

noncomputable def D_thread_Same : Dyn X_thread_Same R_thread_Same := .of tt_thread_Same
noncomputable def con_thread_Same : Con Tryz.prog :=
  mkCon 86 J_thread_Same S_thread_Same D_thread_Same D_thread_Same (fun _ _ h => h) 2 0 [sh_TApi_ThreadState, sh_TApi_ThreadState] (by kernel_rfl) (by kernel_rfl) (by kernel_rfl) (lab_ok mixed_ok labs_nil 4000 (fun x => by kernel_rfl) sd_thread_Same) rfl rfl (fun _ => rfl) (by kernel_rfl) rfl (fun _ => rfl) (fun x y _ => by kernel_rfl)

/-! slices.Equal[[]api.Slot,api.Slot] (slices_Equal_api_Slot) -/
abbrev X_slices_Equal_api_Slot : Type := (Sl TApi_Slot) × (Sl TApi_Slot)
abbrev R_slices_Equal_api_Slot : Type := Bool
noncomputable def J_slices_Equal_api_Slot : Job Tryz.prog :=
  job Tryz.prog Tryz.f138 26 [] [] [] [] [.any] [] [] R_slices_Equal_api_Slot [] fun y => [V.bool y]
noncomputable def S_slices_Equal_api_Slot : LabS :=
  lab0 Tryz.f138 2 0 X_slices_Equal_api_Slot (fun x => [esl_TApi_Slot x.1, esl_TApi_Slot x.2]) fun l => (dsl_TApi_Slot (at_ l 0), dsl_TApi_Slot (at_ l 1))
structure X_slices_Equal_api_Slot_4 where
  s1_0 : (Sl TApi_Slot)
  s2_1 : (Sl TApi_Slot)
  q_12 : Int
  q_13 : Int
noncomputable def S_slices_Equal_api_Slot_4 : LabS :=
  labAt Tryz.f138 4 [(0, hsl_TApi_Slot), (1, hsl_TApi_Slot), (12, .any), (13, .any)] [] [] X_slices_Equal_api_Slot_4 (fun x => [esl_TApi_Slot x.s1_0, esl_TApi_Slot x.s2_1, (V.int .i64) x.q_12, (V.int .i64) x.q_13]) fun l => ⟨dsl_TApi_Slot (at_ l 0), dsl_TApi_Slot (at_ l 1), dI (at_ l 2), dI (at_ l 3)⟩
noncomputable def tt_slices_Equal_api_Slot_4 (D_slices_Equal_api_Slot_4 : Dyn X_slices_Equal_api_Slot_4 R_slices_Equal_api_Slot) (x : X_slices_Equal_api_Slot_4) : TT Tryz.prog R_slices_Equal_api_Slot :=
 (.ite (ilt x.q_13 x.q_12)
  (.need (inb x.q_13 x.s1_0.n) <|
  (.need (inb x.q_13 x.s2_1.n) <|
  (.ite (!((ieq (x.s1_0.get (Int.toNat x.q_13)).Stamp (x.s2_1.get (Int.toNat x.q_13)).Stamp) && ((ieq (x.s1_0.get (Int.toNat x.q_13)).Value (x.s2_1.get (Int.toNat x.q_13)).Value) && ((ieq (x.s1_0.get (Int.toNat x.q_13)).Left (x.s2_1.get (Int.toNat x.q_13)).Left) && true))))
   (.ret false)
   (.jump S_slices_Equal_api_Slot_4 D_slices_Equal_api_Slot_4 (X_slices_Equal_api_Slot_4.mk x.s1_0 x.s2_1 x.q_12 (IntKind.i64.wrap (x.q_13 + 1))))
  )
  )
  )
  (.ret true)
 )
theorem sd_slices_Equal_api_Slot_4 (D_slices_Equal_api_Slot_4 : Dyn X_slices_Equal_api_Slot_4 R_slices_Equal_api_Slot) (x : X_slices_Equal_api_Slot_4) : (tt_slices_Equal_api_Slot_4 D_slices_Equal_api_Slot_4 x).Sides :=
  (TT.s_ite (TT.s_need (TT.s_need (TT.s_ite TT.s_ret TT.s_jump))) TT.s_ret)

noncomputable def D_slices_Equal_api_Slot_4 : Dyn X_slices_Equal_api_Slot_4 R_slices_Equal_api_Slot := Dyn.loop tt_slices_Equal_api_Slot_4
theorem ok_slices_Equal_api_Slot_4 : LabOK J_slices_Equal_api_Slot S_slices_Equal_api_Slot_4 D_slices_Equal_api_Slot_4 :=
  loop_ok fun D_slices_Equal_api_Slot_4 h_4 => lab_ok mixed_ok (labs_cons2 h_4 rfl labs_nil) 4000 (fun x => by kernel_rfl) (sd_slices_Equal_api_Slot_4 D_slices_Equal_api_Slot_4)
noncomputable def tt_slices_Equal_api_Slot (x : X_slices_Equal_api_Slot) : TT Tryz.prog R_slices_Equal_api_Slot :=
 (.ite (!(ieq ((x.fst.n : Nat) : Int) ((x.snd.n : Nat) : Int)))
  (.ret false)
  (.jump S_slices_Equal_api_Slot_4 D_slices_Equal_api_Slot_4 (X_slices_Equal_api_Slot_4.mk x.fst x.snd ((x.fst.n : Nat) : Int) 0))
 )
theorem sd_slices_Equal_api_Slot (x : X_slices_Equal_api_Slot) : (tt_slices_Equal_api_Slot x).Sides :=
  (TT.s_ite TT.s_ret TT.s_jump)

noncomputable def D_slices_Equal_api_Slot : Dyn X_slices_Equal_api_Slot R_slices_Equal_api_Slot := .of tt_slices_Equal_api_Slot
noncomputable def con_slices_Equal_api_Slot : Con Tryz.prog :=
  mkCon 138 J_slices_Equal_api_Slot S_slices_Equal_api_Slot D_slices_Equal_api_Slot D_slices_Equal_api_Slot (fun _ _ h => h) 2 0 [hsl_TApi_Slot, hsl_TApi_Slot] (by kernel_rfl) (by kernel_rfl) (by kernel_rfl) (lab_ok mixed_ok (labs_cons2 ok_slices_Equal_api_Slot_4 rfl labs_nil) 4000 (fun x => by kernel_rfl) sd_slices_Equal_api_Slot) rfl rfl (fun _ => rfl) (by kernel_rfl) rfl (fun _ => rfl) (fun x y _ => by kernel_rfl)

/-! snap.same (snap_same) -/
abbrev X_snap_same : Type := TApi_RingState × TApi_RingState
abbrev R_snap_same : Type := Bool
noncomputable def J_snap_same : Job Tryz.prog :=
  job Tryz.prog Tryz.f88 31 [(2, 3), (3, 3)] [] [] [] [.any] [] [con_slices_Equal_api_Slot, con_slices_Equal_uint64] R_snap_same [] fun y => [V.bool y]
noncomputable def S_snap_same : LabS :=
  lab0 Tryz.f88 2 0 X_snap_same (fun x => [e_TApi_RingState x.1, e_TApi_RingState x.2]) fun l => (d_TApi_RingState (at_ l 0), d_TApi_RingState (at_ l 1))
noncomputable def tt_snap_same (x : X_snap_same) : TT Tryz.prog R_snap_same :=
 (.ite (ieq x.fst.Tail x.snd.Tail)
  (.ite (x.fst.Closed == x.snd.Closed)
   (.call con_slices_Equal_uint64 (x.fst.Heads, x.snd.Heads) fun (y1 : R_slices_Equal_uint64) =>
   (.ite y1
    (.call con_slices_Equal_api_Slot (x.fst.Slots, x.snd.Slots) fun (y2 : R_slices_Equal_api_Slot) =>
    (.ret y2)
    )
    (.ret false)
   )
   )
   (.ret false)
  )
  (.ret false)
 )
theorem sd_snap_same (x : X_snap_same) : (tt_snap_same x).Sides :=
  (TT.s_ite (TT.s_ite (TT.s_call fun _ => (TT.s_ite (TT.s_call fun _ => TT.s_ret) TT.s_ret)) TT.s_ret) TT.s_ret)

noncomputable def D_snap_same : Dyn X_snap_same R_snap_same := .of tt_snap_same
noncomputable def con_snap_same : Con Tryz.prog :=
  mkCon 88 J_snap_same S_snap_same D_snap_same D_snap_same (fun _ _ h => h) 2 0 [sh_TApi_RingState, sh_TApi_RingState] (by kernel_rfl) (by kernel_rfl) (by kernel_rfl) (lab_ok mixed_ok labs_nil 4000 (fun x => by kernel_rfl) sd_snap_same) rfl rfl (fun _ => rfl) (by kernel_rfl) rfl (fun _ => rfl) (fun x y _ => by kernel_rfl)

/-! slices.EqualFunc[[]api.ThreadState,[]api.ThreadState,api.ThreadState,api.ThreadState] (slices_EqualFunc_api_ThreadState__thread_Same) -/
abbrev X_slices_EqualFunc_api_ThreadState__thread_Same : Type := (Sl TApi_ThreadState) × (Sl TApi_ThreadState)
abbrev R_slices_EqualFunc_api_ThreadState__thread_Same : Type := Bool
noncomputable def J_slices_EqualFunc_api_ThreadState__thread_Same : Job Tryz.prog :=
  job Tryz.prog Tryz.f85 32 [(15, 1)] [] [] [] [.any] [] [con_thread_Same] R_slices_EqualFunc_api_ThreadState__thread_Same [] fun y => [V.bool y]
noncomputable def S_slices_EqualFunc_api_ThreadState__thread_Same : LabS :=
  lab0 Tryz.f85 3 0 X_slices_EqualFunc_api_ThreadState__thread_Same (fun x => [esl_TApi_ThreadState x.1, esl_TApi_ThreadState x.2, (V.fn 86 V.unit)]) fun l => (dsl_TApi_ThreadState (at_ l 0), dsl_TApi_ThreadState (at_ l 1))
structure X_slices_EqualFunc_api_ThreadState__thread_Same_4 where
  s2_1 : (Sl TApi_ThreadState)
  q_15 : (Sl TApi_ThreadState)
  q_16 : Int
  q_17 : Int
noncomputable def S_slices_EqualFunc_api_ThreadState__thread_Same_4 : LabS :=
  labAt Tryz.f85 4 [(1, hsl_TApi_ThreadState), (2, .any), (15, hsl_TApi_ThreadState), (16, .any), (17, .any)] [] [] X_slices_EqualFunc_api_ThreadState__thread_Same_4 (fun x => [esl_TApi_ThreadState x.s2_1, (V.fn 86 V.unit), esl_TApi_ThreadState x.q_15, (V.int .i64) x.q_16, (V.int .i64) x.q_17]) fun l => ⟨dsl_TApi_ThreadState (at_ l 0), dsl_TApi_ThreadState (at_ l 2), dI (at_ l 3), dI (at_ l 4)⟩
noncomputable def tt_slices_EqualFunc_api_ThreadState__thread_Same_4 (D_slices_EqualFunc_api_ThreadState__thread_Same_4 : Dyn X_slices_EqualFunc_api_ThreadState__thread_Same_4 R_slices_EqualFunc_api_ThreadState__thread_Same) (x : X_slices_EqualFunc_api_ThreadState__thread_Same_4) : TT Tryz.prog R_slices_EqualFunc_api_ThreadState__thread_Same :=
 (.ite (ilt x.q_17 x.q_16)
  (.need (inb x.q_17 x.q_15.n) <|
  (.need (inb x.q_17 x.s2_1.n) <|
  (.call con_thread_Same ((x.q_15.get (Int.toNat x.q_17)), (x.s2_1.get (Int.toNat x.q_17))) fun (y2 : R_thread_Same) =>
  (.ite (!y2)
   (.ret false)
   (.jump S_slices_EqualFunc_api_ThreadState__thread_Same_4 D_slices_EqualFunc_api_ThreadState__thread_Same_4 (X_slices_EqualFunc_api_ThreadState__thread_Same_4.mk x.s2_1 x.q_15 x.q_16 (IntKind.i64.wrap (x.q_17 + 1))))
  )
  )
  )
  )
  (.ret true)
 )
theorem sd_slices_EqualFunc_api_ThreadState__thread_Same_4 (D_slices_EqualFunc_api_ThreadState__thread_Same_4 : Dyn X_slices_EqualFunc_api_ThreadState__thread_Same_4 R_slices_EqualFunc_api_ThreadState__thread_Same) (x : X_slices_EqualFunc_api_ThreadState__thread_Same_4) : (tt_slices_EqualFunc_api_ThreadState__thread_Same_4 D_slices_EqualFunc_api_ThreadState__thread_Same_4 x).Sides :=
  (TT.s_ite (TT.s_need (TT.s_need (TT.s_call fun _ => (TT.s_ite TT.s_ret TT.s_jump)))) TT.s_ret)

noncomputable def D_slices_EqualFunc_api_ThreadState__thread_Same_4 : Dyn X_slices_EqualFunc_api_ThreadState__thread_Same_4 R_slices_EqualFunc_api_ThreadState__thread_Same := Dyn.loop tt_slices_EqualFunc_api_ThreadState__thread_Same_4
theorem ok_slices_EqualFunc_api_ThreadState__thread_Same_4 : LabOK J_slices_EqualFunc_api_ThreadState__thread_Same S_slices_EqualFunc_api_ThreadState__thread_Same_4 D_slices_EqualFunc_api_ThreadState__thread_Same_4 :=
  loop_ok fun D_slices_EqualFunc_api_ThreadState__thread_Same_4 h_4 => lab_ok mixed_ok (labs_cons2 h_4 rfl labs_nil) 4000 (fun x => by kernel_rfl) (sd_slices_EqualFunc_api_ThreadState__thread_Same_4 D_slices_EqualFunc_api_ThreadState__thread_Same_4)
noncomputable def tt_slices_EqualFunc_api_ThreadState__thread_Same (x : X_slices_EqualFunc_api_ThreadState__thread_Same) : TT Tryz.prog R_slices_EqualFunc_api_ThreadState__thread_Same :=
 (.ite (!(ieq ((x.fst.n : Nat) : Int) ((x.snd.n : Nat) : Int)))
  (.ret false)
  (.jump S_slices_EqualFunc_api_ThreadState__thread_Same_4 D_slices_EqualFunc_api_ThreadState__thread_Same_4 (X_slices_EqualFunc_api_ThreadState__thread_Same_4.mk x.snd x.fst ((x.fst.n : Nat) : Int) 0))
 )
theorem sd_slices_EqualFunc_api_ThreadState__thread_Same (x : X_slices_EqualFunc_api_ThreadState__thread_Same) : (tt_slices_EqualFunc_api_ThreadState__thread_Same x).Sides :=
  (TT.s_ite TT.s_ret TT.s_jump)

noncomputable def D_slices_EqualFunc_api_ThreadState__thread_Same : Dyn X_slices_EqualFunc_api_ThreadState__thread_Same R_slices_EqualFunc_api_ThreadState__thread_Same := .of tt_slices_EqualFunc_api_ThreadState__thread_Same
noncomputable def con_slices_EqualFunc_api_ThreadState__thread_Same : Con Tryz.prog :=
  mkCon 85 J_slices_EqualFunc_api_ThreadState__thread_Same S_slices_EqualFunc_api_ThreadState__thread_Same D_slices_EqualFunc_api_ThreadState__thread_Same D_slices_EqualFunc_api_ThreadState__thread_Same (fun _ _ h => h) 3 0 [hsl_TApi_ThreadState, hsl_TApi_ThreadState, .any] (by kernel_rfl) (by kernel_rfl) (by kernel_rfl) (lab_ok mixed_ok (labs_cons2 ok_slices_EqualFunc_api_ThreadState__thread_Same_4 rfl labs_nil) 4000 (fun x => by kernel_rfl) sd_slices_EqualFunc_api_ThreadState__thread_Same) rfl rfl (fun _ => rfl) (by kernel_rfl) rfl (fun _ => rfl) (fun x y _ => by kernel_rfl)

/-! slices.EqualFunc[[]api.RingState,[]api.RingState,api.RingState,api.RingState] (slices_EqualFunc_api_RingState__snap_same) -/
abbrev X_slices_EqualFunc_api_RingState__snap_same : Type := (Sl TApi_RingState) × (Sl TApi_RingState)
abbrev R_slices_EqualFunc_api_RingState__snap_same : Type := Bool
noncomputable def J_slices_EqualFunc_api_RingState__snap_same : Job Tryz.prog :=
  job Tryz.prog Tryz.f87 32 [(15, 1)] [] [] [] [.any] [] [con_snap_same] R_slices_EqualFunc_api_RingState__snap_same [] fun y => [V.bool y]
noncomputable def S_slices_EqualFunc_api_RingState__snap_same : LabS :=
  lab0 Tryz.f87 3 0 X_slices_EqualFunc_api_RingState__snap_same (fun x => [esl_TApi_RingState x.1, esl_TApi_RingState x.2, (V.fn 88 V.unit)]) fun l => (dsl_TApi_RingState (at_ l 0), dsl_TApi_RingState (at_ l 1))
structure X_slices_EqualFunc_api_RingState__snap_same_4 where
  s2_1 : (Sl TApi_RingState)
  q_15 : (Sl TApi_RingState)
  q_16 : Int
  q_17 : Int
noncomputable def S_slices_EqualFunc_api_RingState__snap_same_4 : LabS :=
  labAt Tryz.f87 4 [(1, hsl_TApi_RingState), (2, .any), (15, hsl_TApi_RingState), (16, .any), (17, .any)] [] [] X_slices_EqualFunc_api_RingState__snap_same_4 (fun x => [esl_TApi_RingState x.s2_1, (V.fn 88 V.unit), esl_TApi_RingState x.q_15, (V.int .i64) x.q_16, (V.int .i64) x.q_17]) fun l => ⟨dsl_TApi_RingState (at_ l 0), dsl_TApi_RingState (at_ l 2), dI (at_ l 3), dI (at_ l 4)⟩
noncomputable def tt_slices_EqualFunc_api_RingState__snap_same_4 (D_slices_EqualFunc_api_RingState__snap_same_4 : Dyn X_slices_EqualFunc_api_RingState__snap_same_4 R_slices_EqualFunc_api_RingState__snap_same) (x : X_slices_EqualFunc_api_RingState__snap_same_4) : TT Tryz.prog R_slices_EqualFunc_api_RingState__snap_same :=
 (.ite (ilt x.q_17 x.q_16)
  (.need (inb x.q_17 x.q_15.n) <|
  (.need (inb x.q_17 x.s2_1.n) <|
  (.call con_snap_same ((x.q_15.get (Int.toNat x.q_17)), (x.s2_1.get (Int.toNat x.q_17))) fun (y2 : R_snap_same) =>
  (.ite (!y2)
   (.ret false)
   (.jump S_slices_EqualFunc_api_RingState__snap_same_4 D_slices_EqualFunc_api_RingState__snap_same_4 (X_slices_EqualFunc_api_RingState__snap_same_4.mk x.s2_1 x.q_15 x.q_16 (IntKind.i64.wrap (x.q_17 + 1))))
  )
  )
  )
  )
  (.ret true)
 )
theorem sd_slices_EqualFunc_api_RingState__snap_same_4 (D_slices_EqualFunc_api_RingState__snap_same_4 : Dyn X_slices_EqualFunc_api_RingState__snap_same_4 R_slices_EqualFunc_api_RingState__snap_same) (x : X_slices_EqualFunc_api_RingState__snap_same_4) : (tt_slices_EqualFunc_api_RingState__snap_same_4 D_slices_EqualFunc_api_RingState__snap_same_4 x).Sides :=
  (TT.s_ite (TT.s_need (TT.s_need (TT.s_call fun _ => (TT.s_ite TT.s_ret TT.s_jump)))) TT.s_ret)

noncomputable def D_slices_EqualFunc_api_RingState__snap_same_4 : Dyn X_slices_EqualFunc_api_RingState__snap_same_4 R_slices_EqualFunc_api_RingState__snap_same := Dyn.loop tt_slices_EqualFunc_api_RingState__snap_same_4
theorem ok_slices_EqualFunc_api_RingState__snap_same_4 : LabOK J_slices_EqualFunc_api_RingState__snap_same S_slices_EqualFunc_api_RingState__snap_same_4 D_slices_EqualFunc_api_RingState__snap_same_4 :=
  loop_ok fun D_slices_EqualFunc_api_RingState__snap_same_4 h_4 => lab_ok mixed_ok (labs_cons2 h_4 rfl labs_nil) 4000 (fun x => by kernel_rfl) (sd_slices_EqualFunc_api_RingState__snap_same_4 D_slices_EqualFunc_api_RingState__snap_same_4)
noncomputable def tt_slices_EqualFunc_api_RingState__snap_same (x : X_slices_EqualFunc_api_RingState__snap_same) : TT Tryz.prog R_slices_EqualFunc_api_RingState__snap_same :=
 (.ite (!(ieq ((x.fst.n : Nat) : Int) ((x.snd.n : Nat) : Int)))
  (.ret false)
  (.jump S_slices_EqualFunc_api_RingState__snap_same_4 D_slices_EqualFunc_api_RingState__snap_same_4 (X_slices_EqualFunc_api_RingState__snap_same_4.mk x.snd x.fst ((x.fst.n : Nat) : Int) 0))
 )
theorem sd_slices_EqualFunc_api_RingState__snap_same (x : X_slices_EqualFunc_api_RingState__snap_same) : (tt_slices_EqualFunc_api_RingState__snap_same x).Sides :=
  (TT.s_ite TT.s_ret TT.s_jump)

noncomputable def D_slices_EqualFunc_api_RingState__snap_same : Dyn X_slices_EqualFunc_api_RingState__snap_same R_slices_EqualFunc_api_RingState__snap_same := .of tt_slices_EqualFunc_api_RingState__snap_same
noncomputable def con_slices_EqualFunc_api_RingState__snap_same : Con Tryz.prog :=
  mkCon 87 J_slices_EqualFunc_api_RingState__snap_same S_slices_EqualFunc_api_RingState__snap_same D_slices_EqualFunc_api_RingState__snap_same D_slices_EqualFunc_api_RingState__snap_same (fun _ _ h => h) 3 0 [hsl_TApi_RingState, hsl_TApi_RingState, .any] (by kernel_rfl) (by kernel_rfl) (by kernel_rfl) (lab_ok mixed_ok (labs_cons2 ok_slices_EqualFunc_api_RingState__snap_same_4 rfl labs_nil) 4000 (fun x => by kernel_rfl) sd_slices_EqualFunc_api_RingState__snap_same) rfl rfl (fun _ => rfl) (by kernel_rfl) rfl (fun _ => rfl) (fun x y _ => by kernel_rfl)

/-! snap.Same (snap_Same) -/
abbrev X_snap_Same : Type := TApi_State × TApi_State
abbrev R_snap_Same : Type := Bool
noncomputable def J_snap_Same : Job Tryz.prog :=
  job Tryz.prog Tryz.f39 38 [(2, 3), (3, 3)] [] [] [] [.any] [] [con_slices_EqualFunc_api_RingState__snap_same, con_slices_EqualFunc_api_ThreadState__thread_Same] R_snap_Same [] fun y => [V.bool y]
noncomputable def S_snap_Same : LabS :=
  lab0 Tryz.f39 2 0 X_snap_Same (fun x => [e_TApi_State x.1, e_TApi_State x.2]) fun l => (d_TApi_State (at_ l 0), d_TApi_State (at_ l 1))
noncomputable def tt_snap_Same (x : X_snap_Same) : TT Tryz.prog R_snap_Same :=
 (.call con_slices_EqualFunc_api_ThreadState__thread_Same (x.fst.Threads, x.snd.Threads) fun (y1 : R_slices_EqualFunc_api_ThreadState__thread_Same) =>
 (.ite y1
  (.call con_slices_EqualFunc_api_RingState__snap_same (x.fst.Rings, x.snd.Rings) fun (y2 : R_slices_EqualFunc_api_RingState__snap_same) =>
  (.ite y2
   (.ite (ieq x.fst.Now x.snd.Now)
    (.ite (ieq x.fst.Reads x.snd.Reads)
     (.ret (x.fst.Ended == x.snd.Ended))
     (.ret false)
    )
    (.ret false)
   )
   (.ret false)
  )
  )
  (.ret false)
 )
 )
theorem sd_snap_Same (x : X_snap_Same) : (tt_snap_Same x).Sides :=
  (TT.s_call fun _ => (TT.s_ite (TT.s_call fun _ => (TT.s_ite (TT.s_ite (TT.s_ite TT.s_ret TT.s_ret) TT.s_ret) TT.s_ret)) TT.s_ret))

noncomputable def D_snap_Same : Dyn X_snap_Same R_snap_Same := .of tt_snap_Same
noncomputable def con_snap_Same : Con Tryz.prog :=
  mkCon 39 J_snap_Same S_snap_Same D_snap_Same D_snap_Same (fun _ _ h => h) 2 0 [sh_TApi_State, sh_TApi_State] (by kernel_rfl) (by kernel_rfl) (by kernel_rfl) (lab_ok mixed_ok labs_nil 4000 (fun x => by kernel_rfl) sd_snap_Same) rfl rfl (fun _ => rfl) (by kernel_rfl) rfl (fun _ => rfl) (fun x y _ => by kernel_rfl)

/-! (*fabric.Fabric).Now (fabric_Fabric_Now) -/
abbrev X_fabric_Fabric_Now : Type := TFabric_Fabric
abbrev R_fabric_Fabric_Now : Type := Int
abbrev RR_fabric_Fabric_Now : Type := Int × TFabric_Fabric
abbrev p_fabric_Fabric_Now (y : RR_fabric_Fabric_Now) : TFabric_Fabric := y.2
abbrev w_fabric_Fabric_Now (x : X_fabric_Fabric_Now) : TFabric_Fabric := x
noncomputable def J_fabric_Fabric_Now : Job Tryz.prog :=
  job Tryz.prog Tryz.f40 9 [] [] [] [] [.any] [sh_TFabric_Fabric] [] RR_fabric_Fabric_Now [] fun y => [(V.int .u64) y.1, e_TFabric_Fabric y.2]
noncomputable def S_fabric_Fabric_Now : LabS :=
  lab0 Tryz.f40 1 1 X_fabric_Fabric_Now (fun x => [(V.ptr (.par 0) []), e_TFabric_Fabric x]) fun l => (d_TFabric_Fabric (at_ l 1))
noncomputable def tt_fabric_Fabric_Now (x : X_fabric_Fabric_Now) : TT Tryz.prog RR_fabric_Fabric_Now :=
 (.ret (x.now, (TFabric_Fabric.mk x.p x.threads x.rings x.now x.reads x.ended)))
theorem sd_fabric_Fabric_Now (x : X_fabric_Fabric_Now) : (tt_fabric_Fabric_Now x).Sides :=
  TT.s_ret
theorem roT_fabric_Fabric_Now (x : X_fabric_Fabric_Now) : TT.Ro p_fabric_Fabric_Now (w_fabric_Fabric_Now x) (tt_fabric_Fabric_Now x) :=
  (TT.ro_ret rfl)

noncomputable def D_fabric_Fabric_Now : Dyn X_fabric_Fabric_Now R_fabric_Fabric_Now := .ro (.of tt_fabric_Fabric_Now) (fun y => (y.1)) (fun y x => (y, x)) fun x y h => congrArg (fun o => (y.1, o)) (roT_fabric_Fabric_Now x y h)
noncomputable def con_fabric_Fabric_Now : Con Tryz.prog :=
  mkConP 40 J_fabric_Fabric_Now S_fabric_Fabric_Now (.of tt_fabric_Fabric_Now) D_fabric_Fabric_Now (fun y x => (y, x)) (fun _ _ h => h) (fun y => (V.int .u64) y) 1 1 [.any] (by kernel_rfl) (by kernel_rfl) (by kernel_rfl) (lab_ok mixed_ok labs_nil 4000 (fun x => by kernel_rfl) sd_fabric_Fabric_Now) rfl rfl (fun _ => rfl) (by kernel_rfl) rfl (fun _ _ => rfl) (fun _ => rfl) (fun x => ⟨(nu_e_TFabric_Fabric : ∀ y, (e_TFabric_Fabric y).NoU) (x), trivial⟩)

/-! rondeaulaw22.awake (w22_awake) -/
abbrev X_w22_awake : Type := Unit
abbrev R_w22_awake : Type := Bool
noncomputable def J_w22_awake : Job Tryz.prog :=
  job Tryz.prog Tryz.f10 110 [(16, 1), (21, 1), (26, 1), (32, 1), (43, 1), (48, 1), (54, 1), (92, 1)] [(9, [.open_ 10])] [] [] [.any] [] [con_fabric_Fabric_Now, con_snap_Load, con_snap_Print, con_snap_Read, con_snap_Same] R_w22_awake [] fun y => [V.bool y]
noncomputable def S_w22_awake : LabS :=
  lab0 Tryz.f10 0 0 X_w22_awake (fun _x => []) fun _l => ()
noncomputable def tt_w22_awake (_x : X_w22_awake) : TT Tryz.prog R_w22_awake :=
 (.call con_snap_Print (TApi_State.mk (Sl.mk true 0 (fun _i1 => (TApi_ThreadState.mk 0 0 0 0 0 (fun _i2 => (0 : Int)) (Sl.mk true 0 (fun _i2 => (0 : Int)))))) (Sl.mk true 0 (fun _i1 => (TApi_RingState.mk 0 (Sl.mk true 0 (fun _i2 => (0 : Int))) false (Sl.mk true 0 (fun _i2 => (TApi_Slot.mk 0 0 0)))))) 0 0 false) fun (y1 : R_snap_Print) =>
 (.call con_snap_Read y1.fst fun (y2 : R_snap_Read) =>
 (.need (decide ((((ByteArray.size y1.fst) + (ByteArray.size (ByteArray.mk #[120]))) ≤ (9223372036854775807 : Nat)))) <|
 (.call con_snap_Read (y1.fst ++ (ByteArray.mk #[120])) fun (y3 : R_snap_Read) =>
 (.call con_snap_Print (TApi_State.mk (Sl.mk false 1 (fun _i4 => (TApi_ThreadState.mk (-(1 : Int)) 0 0 0 0 (fun _i5 => (0 : Int)) (Sl.mk true 0 (fun _i5 => (0 : Int)))))) (Sl.mk true 0 (fun _i4 => (TApi_RingState.mk 0 (Sl.mk true 0 (fun _i5 => (0 : Int))) false (Sl.mk true 0 (fun _i5 => (TApi_Slot.mk 0 0 0)))))) 0 0 false) fun (y4 : R_snap_Print) =>
 (.call con_snap_Load ((TApi_Program.mk (Sl.mk true 0 (fun _i5 => (TApi_Ring.mk 0 0 0))) (Sl.mk false 1 (fun _i5 => (Sl.mk false 1 (fun _i6 => (TApi_Instr.mk 25 0 0 0 0 0)))))), (ByteArray.mk #[1, 1, 0, 0, 0, 0, 0, 0, 0, 0, 0, 0, 0, 0, 0, 0, 7, 0, 0])) fun (y5 : R_snap_Load) =>
 (.call con_snap_Load ((TApi_Program.mk (Sl.mk true 0 (fun _i6 => (TApi_Ring.mk 0 0 0))) (Sl.mk false 1 (fun _i6 => (Sl.mk false 1 (fun _i7 => (TApi_Instr.mk 25 0 0 0 0 0)))))), y1.fst) fun (y6 : R_snap_Load) =>
 (.call con_snap_Load ((TApi_Program.mk (Sl.mk true 0 (fun _i7 => (TApi_Ring.mk 0 0 0))) (Sl.mk true 0 (fun _i7 => (Sl.mk true 0 (fun _i8 => (TApi_Instr.mk 0 0 0 0 0 0)))))), y1.fst) fun (y7 : R_snap_Load) =>
 (.need (!y5.fst.nil) <|
 (.ite (seq y1.fst (ByteArray.mk #[0, 0, 0, 0, 0]))
  (.ite (ieq y1.snd 0)
   (.call con_snap_Same (y2.fst, (TApi_State.mk (Sl.mk true 0 (fun _i8 => (TApi_ThreadState.mk 0 0 0 0 0 (fun _i9 => (0 : Int)) (Sl.mk true 0 (fun _i9 => (0 : Int)))))) (Sl.mk true 0 (fun _i8 => (TApi_RingState.mk 0 (Sl.mk true 0 (fun _i9 => (0 : Int))) false (Sl.mk true 0 (fun _i9 => (TApi_Slot.mk 0 0 0)))))) 0 0 false)) fun (y8 : R_snap_Same) =>
   (.ite y8
    (.ite (ieq y2.snd 0)
     (.ite (ieq y3.snd 3)
      (.ite (ieq y4.snd 1)
       (.ite (ieq y5.snd 0)
        (.call con_fabric_Fabric_Now (TFabric_Fabric.mk y5.fst.x.p y5.fst.x.threads y5.fst.x.rings y5.fst.x.now y5.fst.x.reads y5.fst.x.ended) fun (y9 : R_fabric_Fabric_Now) =>
        (.ite (ieq y9 7)
         (.ite (ieq y6.snd 3)
          (.ite (ieq y7.snd 1)
           (.call con_snap_Same (y2.fst, (TApi_State.mk (Sl.mk true 0 (fun _i10 => (TApi_ThreadState.mk 0 0 0 0 0 (fun _i11 => (0 : Int)) (Sl.mk true 0 (fun _i11 => (0 : Int)))))) (Sl.mk true 0 (fun _i10 => (TApi_RingState.mk 0 (Sl.mk true 0 (fun _i11 => (0 : Int))) false (Sl.mk true 0 (fun _i11 => (TApi_Slot.mk 0 0 0)))))) 1 0 false)) fun (y10 : R_snap_Same) =>
           (.ret (!y10))
           )
           (.ret false)
          )
          (.ret false)
         )
         (.ret false)
        )
        )
        (.ret false)
       )
       (.ret false)
      )
      (.ret false)
     )
     (.ret false)
    )
    (.ret false)
   )
   )
   (.ret false)
  )
  (.ret false)
 )
 )
 )
 )
 )
 )
 )
 )
 )
 )
theorem sd_w22_awake (x : X_w22_awake) : (tt_w22_awake x).Sides :=
  (TT.s_call fun _ => (TT.s_call fun _ => (TT.s_need (TT.s_call fun _ => (TT.s_call fun _ => (TT.s_call fun _ => (TT.s_call fun _ => (TT.s_call fun _ => (TT.s_need (TT.s_ite (TT.s_ite (TT.s_call fun _ => (TT.s_ite (TT.s_ite (TT.s_ite (TT.s_ite (TT.s_ite (TT.s_call fun _ => (TT.s_ite (TT.s_ite (TT.s_ite (TT.s_call fun _ => TT.s_ret) TT.s_ret) TT.s_ret) TT.s_ret)) TT.s_ret) TT.s_ret) TT.s_ret) TT.s_ret) TT.s_ret)) TT.s_ret) TT.s_ret))))))))))

noncomputable def D_w22_awake : Dyn X_w22_awake R_w22_awake := .of tt_w22_awake
noncomputable def con_w22_awake : Con Tryz.prog :=
  mkCon 10 J_w22_awake S_w22_awake D_w22_awake D_w22_awake (fun _ _ h => h) 0 0 [] (by kernel_rfl) (by kernel_rfl) (by kernel_rfl) (lab_ok mixed_ok labs_nil 4000 (fun x => by kernel_rfl) sd_w22_awake) rfl rfl (fun _ => rfl) (by kernel_rfl) rfl (fun _ => rfl) (fun x y _ => by kernel_rfl)

/-! rondeauref09.Few (r09_Few) -/
abbrev X_r09_Few : Type := TApi_Program × Int
abbrev R_r09_Few : Type := Bool
noncomputable def J_r09_Few : Job Tryz.prog :=
  job Tryz.prog Tryz.f11 43 [(2, 3)] [] [] [] [.any] [] [] R_r09_Few [] fun y => [V.bool y]
noncomputable def S_r09_Few : LabS :=
  lab0 Tryz.f11 2 0 X_r09_Few (fun x => [e_TApi_Program x.1, (V.int .i64) x.2]) fun l => (d_TApi_Program (at_ l 0), dI (at_ l 1))
structure X_r09_Few_3 where
  most_1 : Int
  p_2 : TApi_Program
noncomputable def S_r09_Few_3 : LabS :=
  labAt Tryz.f11 3 [(1, .any), (2, .any)] [] [] X_r09_Few_3 (fun x => [(V.int .i64) x.most_1, (eVp e_TApi_Program) x.p_2]) fun l => ⟨dI (at_ l 0), (dVp d_TApi_Program) (at_ l 1)⟩
structure X_r09_Few_5 where
  most_1 : Int
  p_2 : TApi_Program
  n_5 : Int
  i_6 : Int
noncomputable def S_r09_Few_5 : LabS :=
  labAt Tryz.f11 5 [(1, .any), (2, .any), (5, .any), (6, .any)] [] [] X_r09_Few_5 (fun x => [(V.int .i64) x.most_1, (eVp e_TApi_Program) x.p_2, (V.int .i64) x.n_5, (V.int .i64) x.i_6]) fun l => ⟨dI (at_ l 0), (dVp d_TApi_Program) (at_ l 1), dI (at_ l 2), dI (at_ l 3)⟩
noncomputable def tt_r09_Few_5 (D_r09_Few_5 : Dyn X_r09_Few_5 R_r09_Few) (x : X_r09_Few_5) : TT Tryz.prog R_r09_Few :=
 (.ite (ilt x.i_6 ((x.p_2.Threads.n : Nat) : Int))
  (.need (inb x.i_6 x.p_2.Threads.n) <|
  (.ite (ilt x.most_1 (((x.p_2.Threads.get (Int.toNat x.i_6)).n : Nat) : Int))
   (.ret false)
   (.need (inb x.i_6 x.p_2.Threads.n) <|
   (.jump S_r09_Few_5 D_r09_Few_5 (X_r09_Few_5.mk x.most_1 x.p_2 (IntKind.i64.wrap (x.n_5 + (((x.p_2.Threads.get (Int.toNat x.i_6)).n : Nat) : Int))) (IntKind.i64.wrap (x.i_6 + 1))))
   )
  )
  )
  (.ret (ile x.n_5 x.most_1))
 )
theorem sd_r09_Few_5 (D_r09_Few_5 : Dyn X_r09_Few_5 R_r09_Few) (x : X_r09_Few_5) : (tt_r09_Few_5 D_r09_Few_5 x).Sides :=
  (TT.s_ite (TT.s_need (TT.s_ite TT.s_ret (TT.s_need TT.s_jump))) TT.s_ret)

noncomputable def D_r09_Few_5 : Dyn X_r09_Few_5 R_r09_Few := Dyn.loop tt_r09_Few_5
theorem ok_r09_Few_5 : LabOK J_r09_Few S_r09_Few_5 D_r09_Few_5 :=
  loop_ok fun D_r09_Few_5 h_5 => lab_ok mixed_ok (labs_cons2 h_5 rfl labs_nil) 4000 (fun x => by kernel_rfl) (sd_r09_Few_5 D_r09_Few_5)
noncomputable def tt_r09_Few_3 (x : X_r09_Few_3) : TT Tryz.prog R_r09_Few :=
 (.jump S_r09_Few_5 D_r09_Few_5 (X_r09_Few_5.mk x.most_1 x.p_2 0 0))
theorem sd_r09_Few_3 (x : X_r09_Few_3) : (tt_r09_Few_3 x).Sides :=
  TT.s_jump

noncomputable def D_r09_Few_3 : Dyn X_r09_Few_3 R_r09_Few := .of tt_r09_Few_3
theorem ok_r09_Few_3 : LabOK J_r09_Few S_r09_Few_3 D_r09_Few_3 :=
  lab_ok mixed_ok (labs_cons2 ok_r09_Few_5 rfl labs_nil) 4000 (fun x => by kernel_rfl) sd_r09_Few_3
noncomputable def tt_r09_Few (x : X_r09_Few) : TT Tryz.prog R_r09_Few :=
 (.ite (ilt 10 ((x.fst.Rings.n : Nat) : Int))
  (.ret false)
  (.ite (ilt 10 ((x.fst.Threads.n : Nat) : Int))
   (.ret false)
   (.jump S_r09_Few_3 D_r09_Few_3 (X_r09_Few_3.mk x.snd x.fst))
  )
 )
theorem sd_r09_Few (x : X_r09_Few) : (tt_r09_Few x).Sides :=
  (TT.s_ite TT.s_ret (TT.s_ite TT.s_ret TT.s_jump))

noncomputable def D_r09_Few : Dyn X_r09_Few R_r09_Few := .of tt_r09_Few
noncomputable def con_r09_Few : Con Tryz.prog :=
  mkCon 11 J_r09_Few S_r09_Few D_r09_Few D_r09_Few (fun _ _ h => h) 2 0 [sh_TApi_Program, .any] (by kernel_rfl) (by kernel_rfl) (by kernel_rfl) (lab_ok mixed_ok (labs_cons2 ok_r09_Few_5 rfl (labs_cons2 ok_r09_Few_3 rfl labs_nil)) 4000 (fun x => by kernel_rfl) sd_r09_Few) rfl rfl (fun _ => rfl) (by kernel_rfl) rfl (fun _ => rfl) (fun x y _ => by kernel_rfl)

/-! rondeauref11.ring (r11_ring) -/
abbrev X_r11_ring : Type := TApi_Ring
abbrev R_r11_ring : Type := Bool
noncomputable def J_r11_ring : Job Tryz.prog :=
  job Tryz.prog Tryz.f139 36 [(1, 3)] [] [] [] [.any] [] [] R_r11_ring [] fun y => [V.bool y]
noncomputable def S_r11_ring : LabS :=
  lab0 Tryz.f139 1 0 X_r11_ring (fun x => [e_TApi_Ring x]) fun l => (d_TApi_Ring (at_ l 0))
noncomputable def tt_r11_ring (x : X_r11_ring) : TT Tryz.prog R_r11_ring :=
 (.ite (ile 1 x.Cap)
  (.ite (ile x.Cap 64)
   (.ite (ieq x.Kind 1)
    (.ite (ieq x.Readers 1)
     (.ret true)
     (.ite (ieq x.Kind 2)
      (.ite (ile 1 x.Readers)
       (.ret (ile x.Readers 8))
       (.ret false)
      )
      (.ret false)
     )
    )
    (.ite (ieq x.Kind 2)
     (.ite (ile 1 x.Readers)
      (.ret (ile x.Readers 8))
      (.ret false)
     )
     (.ret false)
    )
   )
   (.ret false)
  )
  (.ret false)
 )
theorem sd_r11_ring (x : X_r11_ring) : (tt_r11_ring x).Sides :=
  (TT.s_ite (TT.s_ite (TT.s_ite (TT.s_ite TT.s_ret (TT.s_ite (TT.s_ite TT.s_ret TT.s_ret) TT.s_ret)) (TT.s_ite (TT.s_ite TT.s_ret TT.s_ret) TT.s_ret)) TT.s_ret) TT.s_ret)

noncomputable def D_r11_ring : Dyn X_r11_ring R_r11_ring := .of tt_r11_ring
noncomputable def con_r11_ring : Con Tryz.prog :=
  mkCon 139 J_r11_ring S_r11_ring D_r11_ring D_r11_ring (fun _ _ h => h) 1 0 [.any] (by kernel_rfl) (by kernel_rfl) (by kernel_rfl) (lab_ok mixed_ok labs_nil 4000 (fun x => by kernel_rfl) sd_r11_ring) rfl rfl (fun _ => rfl) (by kernel_rfl) rfl (fun _ => rfl) (fun x y _ => by kernel_rfl)

/-! rondeauref09.form (r09_form) -/
abbrev X_r09_form : Type := Int
abbrev R_r09_form : Type := ByteArray
noncomputable def J_r09_form : Job Tryz.prog :=
  job Tryz.prog Tryz.f178 53 [] [] [] [] [.any] [] [] R_r09_form [] fun y => [V.str y]
noncomputable def S_r09_form : LabS :=
  lab0 Tryz.f178 1 0 X_r09_form (fun x => [(V.int .i64) x]) fun l => (dI (at_ l 0))
noncomputable def tt_r09_form (x : X_r09_form) : TT Tryz.prog R_r09_form :=
 (.ite (ieq x 1)
  (.ret (ByteArray.mk #[114, 48, 48, 48, 110]))
  (.ite (ieq x 2)
   (.ret (ByteArray.mk #[114, 114, 48, 48, 48]))
   (.ite (ieq x 23)
    (.ret (ByteArray.mk #[114, 114, 48, 48, 48]))
    (.ite (ile 3 x)
     (.ite (ile x 14)
      (.ret (ByteArray.mk #[114, 114, 114, 48, 48]))
      (.ite (ieq x 15)
       (.ret (ByteArray.mk #[48, 48, 48, 48, 112]))
       (.ite (ieq x 16)
        (.ret (ByteArray.mk #[114, 48, 48, 48, 112]))
        (.ite (ieq x 17)
         (.ret (ByteArray.mk #[114, 48, 48, 48, 112]))
         (.ite (ieq x 18)
          (.ret (ByteArray.mk #[114, 114, 103, 109, 48]))
          (.ite (ieq x 19)
           (.ret (ByteArray.mk #[114, 114, 103, 109, 100]))
           (.ite (ieq x 20)
            (.ret (ByteArray.mk #[48, 48, 103, 48, 48]))
            (.ite (ieq x 21)
             (.ret (ByteArray.mk #[114, 48, 48, 48, 48]))
             (.ite (ieq x 22)
              (.ret (ByteArray.mk #[114, 48, 48, 48, 48]))
              (.ite (ieq x 24)
               (.ret (ByteArray.mk #[114, 48, 48, 48, 48]))
               (.ite (ieq x 25)
                (.ret (ByteArray.mk #[48, 48, 48, 48, 48]))
                (.ret (ByteArray.mk #[]))
               )
              )
             )
            )
           )
          )
         )
        )
       )
      )
     )
     (.ite (ieq x 15)
      (.ret (ByteArray.mk #[48, 48, 48, 48, 112]))
      (.ite (ieq x 16)
       (.ret (ByteArray.mk #[114, 48, 48, 48, 112]))
       (.ite (ieq x 17)
        (.ret (ByteArray.mk #[114, 48, 48, 48, 112]))
        (.ite (ieq x 18)
         (.ret (ByteArray.mk #[114, 114, 103, 109, 48]))
         (.ite (ieq x 19)
          (.ret (ByteArray.mk #[114, 114, 103, 109, 100]))
          (.ite (ieq x 20)
           (.ret (ByteArray.mk #[48, 48, 103, 48, 48]))
           (.ite (ieq x 21)
            (.ret (ByteArray.mk #[114, 48, 48, 48, 48]))
            (.ite (ieq x 22)
             (.ret (ByteArray.mk #[114, 48, 48, 48, 48]))
             (.ite (ieq x 24)
              (.ret (ByteArray.mk #[114, 48, 48, 48, 48]))
              (.ite (ieq x 25)
               (.ret (ByteArray.mk #[48, 48, 48, 48, 48]))
               (.ret (ByteArray.mk #[]))
              )
             )
            )
           )
          )
         )
        )
       )
      )
     )
    )
   )
  )
 )
theorem sd_r09_form (x : X_r09_form) : (tt_r09_form x).Sides :=
  (TT.s_ite TT.s_ret (TT.s_ite TT.s_ret (TT.s_ite TT.s_ret (TT.s_ite (TT.s_ite TT.s_ret (TT.s_ite TT.s_ret (TT.s_ite TT.s_ret (TT.s_ite TT.s_ret (TT.s_ite TT.s_ret (TT.s_ite TT.s_ret (TT.s_ite TT.s_ret (TT.s_ite TT.s_ret (TT.s_ite TT.s_ret (TT.s_ite TT.s_ret (TT.s_ite TT.s_ret TT.s_ret))))))))))) (TT.s_ite TT.s_ret (TT.s_ite TT.s_ret (TT.s_ite TT.s_ret (TT.s_ite TT.s_ret (TT.s_ite TT.s_ret (TT.s_ite TT.s_ret (TT.s_ite TT.s_ret (TT.s_ite TT.s_ret (TT.s_ite TT.s_ret (TT.s_ite TT.s_ret TT.s_ret))))))))))))))

noncomputable def D_r09_form : Dyn X_r09_form R_r09_form := .of tt_r09_form
noncomputable def con_r09_form : Con Tryz.prog :=
  mkCon 178 J_r09_form S_r09_form D_r09_form D_r09_form (fun _ _ h => h) 1 0 [.any] (by kernel_rfl) (by kernel_rfl) (by kernel_rfl) (lab_ok mixed_ok labs_nil 4000 (fun x => by kernel_rfl) sd_r09_form) rfl rfl (fun _ => rfl) (by kernel_rfl) rfl (fun _ => rfl) (fun x y _ => by kernel_rfl)

/-! rondeauref09.most (r09_most) -/
abbrev X_r09_most : Type := Int
abbrev R_r09_most : Type := Int
noncomputable def J_r09_most : Job Tryz.prog :=
  job Tryz.prog Tryz.f179 14 [] [] [] [] [.any] [] [] R_r09_most [] fun y => [(V.int .u64) y]
noncomputable def S_r09_most : LabS :=
  lab0 Tryz.f179 1 0 X_r09_most (fun x => [(V.int .u8) x]) fun l => (dI (at_ l 0))
noncomputable def tt_r09_most (x : X_r09_most) : TT Tryz.prog R_r09_most :=
 (.ite (ieq x 114)
  (.ret 7)
  (.ite (ieq x 103)
   (.ret 7)
   (.ite (ieq x 100)
    (.ret 7)
    (.ite (ieq x 109)
     (.ret 2)
     (.ite (ieq x 112)
      (.ret 256)
      (.ite (ieq x 110)
       (.ret 18446744073709551615)
       (.ret 0)
      )
     )
    )
   )
  )
 )
theorem sd_r09_most (x : X_r09_most) : (tt_r09_most x).Sides :=
  (TT.s_ite TT.s_ret (TT.s_ite TT.s_ret (TT.s_ite TT.s_ret (TT.s_ite TT.s_ret (TT.s_ite TT.s_ret (TT.s_ite TT.s_ret TT.s_ret))))))

noncomputable def D_r09_most : Dyn X_r09_most R_r09_most := .of tt_r09_most
noncomputable def con_r09_most : Con Tryz.prog :=
  mkCon 179 J_r09_most S_r09_most D_r09_most D_r09_most (fun _ _ h => h) 1 0 [.any] (by kernel_rfl) (by kernel_rfl) (by kernel_rfl) (lab_ok mixed_ok labs_nil 4000 (fun x => by kernel_rfl) sd_r09_most) rfl rfl (fun _ => rfl) (by kernel_rfl) rfl (fun _ => rfl) (fun x y _ => by kernel_rfl)

/-! rondeauref09.Right (r09_Right) -/
abbrev X_r09_Right : Type := TApi_Instr
abbrev R_r09_Right : Type := Bool
noncomputable def J_r09_Right : Job Tryz.prog :=
  job Tryz.prog Tryz.f140 49 [(1, 3)] [] [] [] [.any] [] [con_r09_form, con_r09_most] R_r09_Right [] fun y => [V.bool y]
noncomputable def S_r09_Right : LabS :=
  lab0 Tryz.f140 1 0 X_r09_Right (fun x => [e_TApi_Instr x]) fun l => (d_TApi_Instr (at_ l 0))
structure X_r09_Right_4 where
  i_1 : TApi_Instr
  f_3 : ByteArray
noncomputable def S_r09_Right_4 : LabS :=
  labAt Tryz.f140 4 [(1, .any), (3, .any)] [] [] X_r09_Right_4 (fun x => [(eVp e_TApi_Instr) x.i_1, V.str x.f_3]) fun l => ⟨(dVp d_TApi_Instr) (at_ l 0), dS (at_ l 1)⟩
structure X_r09_Right_6 where
  f_3 : ByteArray
  l_4 : (Sl Int)
  k_5 : Int
noncomputable def S_r09_Right_6 : LabS :=
  labAt Tryz.f140 6 [(3, .any), (4, hsl_i64), (5, .any)] [] [] X_r09_Right_6 (fun x => [V.str x.f_3, esl_i64 x.l_4, (V.int .i64) x.k_5]) fun l => ⟨dS (at_ l 0), dsl_i64 (at_ l 1), dI (at_ l 2)⟩
structure X_r09_Right_7 where
  f_3 : ByteArray
  l_4 : (Sl Int)
  k_5 : Int
noncomputable def S_r09_Right_7 : LabS :=
  labAt Tryz.f140 7 [(3, .any), (4, hsl_i64), (5, .any)] [] [] X_r09_Right_7 (fun x => [V.str x.f_3, esl_i64 x.l_4, (V.int .i64) x.k_5]) fun l => ⟨dS (at_ l 0), dsl_i64 (at_ l 1), dI (at_ l 2)⟩
noncomputable def tt_r09_Right_7 (D_r09_Right_6 : Dyn X_r09_Right_6 R_r09_Right) (x : X_r09_Right_7) : TT Tryz.prog R_r09_Right :=
 (.jump S_r09_Right_6 D_r09_Right_6 (X_r09_Right_6.mk x.f_3 x.l_4 (IntKind.i64.wrap (x.k_5 + 1))))
theorem sd_r09_Right_7 (D_r09_Right_6 : Dyn X_r09_Right_6 R_r09_Right) (x : X_r09_Right_7) : (tt_r09_Right_7 D_r09_Right_6 x).Sides :=
  TT.s_jump

noncomputable def D_r09_Right_7 (D_r09_Right_6 : Dyn X_r09_Right_6 R_r09_Right) : Dyn X_r09_Right_7 R_r09_Right := .of (tt_r09_Right_7 D_r09_Right_6)
theorem ok_r09_Right_7 (D_r09_Right_6 : Dyn X_r09_Right_6 R_r09_Right) (h_6 : LabOK J_r09_Right S_r09_Right_6 D_r09_Right_6) : LabOK J_r09_Right S_r09_Right_7 (D_r09_Right_7 D_r09_Right_6) :=
  lab_ok mixed_ok (labs_cons2 h_6 rfl labs_nil) 4000 (fun x => by kernel_rfl) (sd_r09_Right_7 D_r09_Right_6)
noncomputable def tt_r09_Right_6 (D_r09_Right_6 : Dyn X_r09_Right_6 R_r09_Right) (x : X_r09_Right_6) : TT Tryz.prog R_r09_Right :=
 (.ite (ilt x.k_5 4)
  (.need (inb x.k_5 x.l_4.n) <|
  (.ite (ilt (x.l_4.get (Int.toNat x.k_5)) 0)
   (.ret false)
   (.need (inb x.k_5 x.l_4.n) <|
   (.need (inb x.k_5 (ByteArray.size x.f_3)) <|
   (.call con_r09_most (bt x.f_3 (Int.toNat x.k_5)) fun (y2 : R_r09_most) =>
   (.ite (ilt y2 (IntKind.u64.wrap (x.l_4.get (Int.toNat x.k_5))))
    (.ret false)
    (.jump S_r09_Right_7 (D_r09_Right_7 D_r09_Right_6) (X_r09_Right_7.mk x.f_3 x.l_4 x.k_5))
   )
   )
   )
   )
  )
  )
  (.ret true)
 )
theorem sd_r09_Right_6 (D_r09_Right_6 : Dyn X_r09_Right_6 R_r09_Right) (x : X_r09_Right_6) : (tt_r09_Right_6 D_r09_Right_6 x).Sides :=
  (TT.s_ite (TT.s_need (TT.s_ite TT.s_ret (TT.s_need (TT.s_need (TT.s_call fun _ => (TT.s_ite TT.s_ret TT.s_jump)))))) TT.s_ret)

noncomputable def D_r09_Right_6 : Dyn X_r09_Right_6 R_r09_Right := Dyn.loop tt_r09_Right_6
theorem ok_r09_Right_6 : LabOK J_r09_Right S_r09_Right_6 D_r09_Right_6 :=
  loop_ok fun D_r09_Right_6 h_6 => lab_ok mixed_ok (labs_cons2 h_6 rfl (labs_cons2 (ok_r09_Right_7 D_r09_Right_6 h_6) rfl labs_nil)) 4000 (fun x => by kernel_rfl) (sd_r09_Right_6 D_r09_Right_6)
noncomputable def tt_r09_Right_4 (x : X_r09_Right_4) : TT Tryz.prog R_r09_Right :=
 (.jump S_r09_Right_6 D_r09_Right_6 (X_r09_Right_6.mk x.f_3 (Sl.mk false 4 (fun i1 => (cond (Nat.beq i1 0) x.i_1.A (cond (Nat.beq i1 1) x.i_1.B (cond (Nat.beq i1 2) x.i_1.C x.i_1.D))))) 0))
theorem sd_r09_Right_4 (x : X_r09_Right_4) : (tt_r09_Right_4 x).Sides :=
  TT.s_jump

noncomputable def D_r09_Right_4 : Dyn X_r09_Right_4 R_r09_Right := .of tt_r09_Right_4
theorem ok_r09_Right_4 : LabOK J_r09_Right S_r09_Right_4 D_r09_Right_4 :=
  lab_ok mixed_ok (labs_cons2 ok_r09_Right_6 rfl labs_nil) 4000 (fun x => by kernel_rfl) sd_r09_Right_4
noncomputable def tt_r09_Right (x : X_r09_Right) : TT Tryz.prog R_r09_Right :=
 (.call con_r09_form x.Op fun (y1 : R_r09_form) =>
 (.ite (seq y1 (ByteArray.mk #[]))
  (.ret false)
  (.need (inb 4 (ByteArray.size y1)) <|
  (.call con_r09_most (bt y1 (Int.toNat 4)) fun (y2 : R_r09_most) =>
  (.ite (ilt y2 x.K)
   (.ret false)
   (.jump S_r09_Right_4 D_r09_Right_4 (X_r09_Right_4.mk x y1))
  )
  )
  )
 )
 )
theorem sd_r09_Right (x : X_r09_Right) : (tt_r09_Right x).Sides :=
  (TT.s_call fun _ => (TT.s_ite TT.s_ret (TT.s_need (TT.s_call fun _ => (TT.s_ite TT.s_ret TT.s_jump)))))

noncomputable def D_r09_Right : Dyn X_r09_Right R_r09_Right := .of tt_r09_Right
noncomputable def con_r09_Right : Con Tryz.prog :=
  mkCon 140 J_r09_Right S_r09_Right D_r09_Right D_r09_Right (fun _ _ h => h) 1 0 [.any] (by kernel_rfl) (by kernel_rfl) (by kernel_rfl) (lab_ok mixed_ok (labs_cons2 ok_r09_Right_6 rfl (labs_cons2 ok_r09_Right_4 rfl labs_nil)) 4000 (fun x => by kernel_rfl) sd_r09_Right) rfl rfl (fun _ => rfl) (by kernel_rfl) rfl (fun _ => rfl) (fun x y _ => by kernel_rfl)

/-! rondeauref11.instr (r11_instr) -/
abbrev X_r11_instr : Type := TApi_Program × TApi_Instr × Int
abbrev R_r11_instr : Type := Int
noncomputable def J_r11_instr : Job Tryz.prog :=
  job Tryz.prog Tryz.f141 56 [(3, 3), (4, 3)] [] [] [] [.any] [] [] R_r11_instr [] fun y => [(V.int .i64) y]
noncomputable def S_r11_instr : LabS :=
  lab0 Tryz.f141 3 0 X_r11_instr (fun x => [e_TApi_Program x.1, e_TApi_Instr x.2.1, (V.int .i64) x.2.2]) fun l => (d_TApi_Program (at_ l 0), d_TApi_Instr (at_ l 1), dI (at_ l 2))
structure X_r11_instr_3 where
  p_3 : TApi_Program
  i_4 : TApi_Instr
noncomputable def S_r11_instr_3 : LabS :=
  labAt Tryz.f141 3 [(3, .any), (4, .any)] [] [] X_r11_instr_3 (fun x => [(eVp e_TApi_Program) x.p_3, (eVp e_TApi_Instr) x.i_4]) fun l => ⟨(dVp d_TApi_Program) (at_ l 0), (dVp d_TApi_Instr) (at_ l 1)⟩
noncomputable def tt_r11_instr_3 (x : X_r11_instr_3) : TT Tryz.prog R_r11_instr :=
 (.ite (ile 18 x.i_4.Op)
  (.ite (ile x.i_4.Op 20)
   (.ite (ile ((x.p_3.Rings.n : Nat) : Int) x.i_4.C)
    (.ret 7)
    (.ite (ieq x.i_4.Op 19)
     (.need (inb x.i_4.C x.p_3.Rings.n) <|
     (.ite (ile (IntKind.u64.wrap (x.p_3.Rings.get (Int.toNat x.i_4.C)).Readers) x.i_4.K)
      (.ret 7)
      (.ret 0)
     )
     )
     (.ret 0)
    )
   )
   (.ite (ieq x.i_4.Op 19)
    (.need (inb x.i_4.C x.p_3.Rings.n) <|
    (.ite (ile (IntKind.u64.wrap (x.p_3.Rings.get (Int.toNat x.i_4.C)).Readers) x.i_4.K)
     (.ret 7)
     (.ret 0)
    )
    )
    (.ret 0)
   )
  )
  (.ite (ieq x.i_4.Op 19)
   (.need (inb x.i_4.C x.p_3.Rings.n) <|
   (.ite (ile (IntKind.u64.wrap (x.p_3.Rings.get (Int.toNat x.i_4.C)).Readers) x.i_4.K)
    (.ret 7)
    (.ret 0)
   )
   )
   (.ret 0)
  )
 )
theorem sd_r11_instr_3 (x : X_r11_instr_3) : (tt_r11_instr_3 x).Sides :=
  (TT.s_ite (TT.s_ite (TT.s_ite TT.s_ret (TT.s_ite (TT.s_need (TT.s_ite TT.s_ret TT.s_ret)) TT.s_ret)) (TT.s_ite (TT.s_need (TT.s_ite TT.s_ret TT.s_ret)) TT.s_ret)) (TT.s_ite (TT.s_need (TT.s_ite TT.s_ret TT.s_ret)) TT.s_ret))

noncomputable def D_r11_instr_3 : Dyn X_r11_instr_3 R_r11_instr := .of tt_r11_instr_3
theorem ok_r11_instr_3 : LabOK J_r11_instr S_r11_instr_3 D_r11_instr_3 :=
  lab_ok mixed_ok labs_nil 4000 (fun x => by kernel_rfl) sd_r11_instr_3
noncomputable def tt_r11_instr (x : X_r11_instr) : TT Tryz.prog R_r11_instr :=
 (.ite (ile 15 x.snd.fst.Op)
  (.ite (ile x.snd.fst.Op 17)
   (.ite (ilt (IntKind.u64.wrap x.snd.snd) x.snd.fst.K)
    (.ret 5)
    (.jump S_r11_instr_3 D_r11_instr_3 (X_r11_instr_3.mk x.fst x.snd.fst))
   )
   (.jump S_r11_instr_3 D_r11_instr_3 (X_r11_instr_3.mk x.fst x.snd.fst))
  )
  (.jump S_r11_instr_3 D_r11_instr_3 (X_r11_instr_3.mk x.fst x.snd.fst))
 )
theorem sd_r11_instr (x : X_r11_instr) : (tt_r11_instr x).Sides :=
  (TT.s_ite (TT.s_ite (TT.s_ite TT.s_ret TT.s_jump) TT.s_jump) TT.s_jump)

noncomputable def D_r11_instr : Dyn X_r11_instr R_r11_instr := .of tt_r11_instr
noncomputable def con_r11_instr : Con Tryz.prog :=
  mkCon 141 J_r11_instr S_r11_instr D_r11_instr D_r11_instr (fun _ _ h => h) 3 0 [sh_TApi_Program, .any, .any] (by kernel_rfl) (by kernel_rfl) (by kernel_rfl) (lab_ok mixed_ok (labs_cons2 ok_r11_instr_3 rfl labs_nil) 4000 (fun x => by kernel_rfl) sd_r11_instr) rfl rfl (fun _ => rfl) (by kernel_rfl) rfl (fun _ => rfl) (fun x y _ => by kernel_rfl)

/-! rondeauref11.Check (r11_Check) -/
abbrev X_r11_Check : Type := TApi_Program
abbrev R_r11_Check : Type := Int × Int × Int
noncomputable def J_r11_Check : Job Tryz.prog :=
  job Tryz.prog Tryz.f89 81 [(1, 3)] [] [] [] [.any, .any, .any] [] [con_r09_Right, con_r11_instr, con_r11_ring] R_r11_Check [] fun y => [V.tup (V.cons ((V.int .i64) y.1) (V.cons ((V.int .i64) y.2.1) (V.cons ((V.int .i64) y.2.2) (V.unit))))]
noncomputable def S_r11_Check : LabS :=
  lab0 Tryz.f89 1 0 X_r11_Check (fun x => [e_TApi_Program x]) fun l => (d_TApi_Program (at_ l 0))
structure X_r11_Check_3 where
  p_1 : TApi_Program
noncomputable def S_r11_Check_3 : LabS :=
  labAt Tryz.f89 3 [(1, .any)] [] [] X_r11_Check_3 (fun x => [(eVp e_TApi_Program) x.p_1]) fun l => ⟨(dVp d_TApi_Program) (at_ l 0)⟩
structure X_r11_Check_4 where
  p_1 : TApi_Program
  i_5 : Int
noncomputable def S_r11_Check_4 : LabS :=
  labAt Tryz.f89 4 [(1, .any), (5, .any)] [] [] X_r11_Check_4 (fun x => [(eVp e_TApi_Program) x.p_1, (V.int .i64) x.i_5]) fun l => ⟨(dVp d_TApi_Program) (at_ l 0), dI (at_ l 1)⟩
structure X_r11_Check_8 where
  p_1 : TApi_Program
noncomputable def S_r11_Check_8 : LabS :=
  labAt Tryz.f89 8 [(1, .any)] [] [] X_r11_Check_8 (fun x => [(eVp e_TApi_Program) x.p_1]) fun l => ⟨(dVp d_TApi_Program) (at_ l 0)⟩
structure X_r11_Check_9 where
  p_1 : TApi_Program
  t_6 : Int
noncomputable def S_r11_Check_9 : LabS :=
  labAt Tryz.f89 9 [(1, .any), (6, .any)] [] [] X_r11_Check_9 (fun x => [(eVp e_TApi_Program) x.p_1, (V.int .i64) x.t_6]) fun l => ⟨(dVp d_TApi_Program) (at_ l 0), dI (at_ l 1)⟩
structure X_r11_Check_10 where
  p_1 : TApi_Program
  t_6 : Int
noncomputable def S_r11_Check_10 : LabS :=
  labAt Tryz.f89 10 [(1, .any), (6, .any)] [] [] X_r11_Check_10 (fun x => [(eVp e_TApi_Program) x.p_1, (V.int .i64) x.t_6]) fun l => ⟨(dVp d_TApi_Program) (at_ l 0), dI (at_ l 1)⟩
structure X_r11_Check_15 where
  p_1 : TApi_Program
  t_6 : Int
  l_7 : (Sl TApi_Instr)
  k_8 : Int
noncomputable def S_r11_Check_15 : LabS :=
  labAt Tryz.f89 15 [(1, .any), (6, .any), (7, hsl_TApi_Instr), (8, .any)] [] [] X_r11_Check_15 (fun x => [(eVp e_TApi_Program) x.p_1, (V.int .i64) x.t_6, esl_TApi_Instr x.l_7, (V.int .i64) x.k_8]) fun l => ⟨(dVp d_TApi_Program) (at_ l 0), dI (at_ l 1), dsl_TApi_Instr (at_ l 2), dI (at_ l 3)⟩
structure X_r11_Check_16 where
  p_1 : TApi_Program
  t_6 : Int
  l_7 : (Sl TApi_Instr)
  k_8 : Int
noncomputable def S_r11_Check_16 : LabS :=
  labAt Tryz.f89 16 [(1, .any), (6, .any), (7, hsl_TApi_Instr), (8, .any)] [] [] X_r11_Check_16 (fun x => [(eVp e_TApi_Program) x.p_1, (V.int .i64) x.t_6, esl_TApi_Instr x.l_7, (V.int .i64) x.k_8]) fun l => ⟨(dVp d_TApi_Program) (at_ l 0), dI (at_ l 1), dsl_TApi_Instr (at_ l 2), dI (at_ l 3)⟩
structure X_r11_Check_20 where
  p_1 : TApi_Program
  t_6 : Int
  l_7 : (Sl TApi_Instr)
  k_8 : Int
  e_9 : Int
noncomputable def S_r11_Check_20 : LabS :=
  labAt Tryz.f89 20 [(1, .any), (6, .any), (7, hsl_TApi_Instr), (8, .any), (9, .any)] [] [] X_r11_Check_20 (fun x => [(eVp e_TApi_Program) x.p_1, (V.int .i64) x.t_6, esl_TApi_Instr x.l_7, (V.int .i64) x.k_8, (V.int .i64) x.e_9]) fun l => ⟨(dVp d_TApi_Program) (at_ l 0), dI (at_ l 1), dsl_TApi_Instr (at_ l 2), dI (at_ l 3), dI (at_ l 4)⟩
noncomputable def tt_r11_Check_10 (D_r11_Check_9 : Dyn X_r11_Check_9 R_r11_Check) (x : X_r11_Check_10) : TT Tryz.prog R_r11_Check :=
 (.jump S_r11_Check_9 D_r11_Check_9 (X_r11_Check_9.mk x.p_1 (IntKind.i64.wrap (x.t_6 + 1))))
theorem sd_r11_Check_10 (D_r11_Check_9 : Dyn X_r11_Check_9 R_r11_Check) (x : X_r11_Check_10) : (tt_r11_Check_10 D_r11_Check_9 x).Sides :=
  TT.s_jump

noncomputable def D_r11_Check_10 (D_r11_Check_9 : Dyn X_r11_Check_9 R_r11_Check) : Dyn X_r11_Check_10 R_r11_Check := .of (tt_r11_Check_10 D_r11_Check_9)
theorem ok_r11_Check_10 (D_r11_Check_9 : Dyn X_r11_Check_9 R_r11_Check) (h_9 : LabOK J_r11_Check S_r11_Check_9 D_r11_Check_9) : LabOK J_r11_Check S_r11_Check_10 (D_r11_Check_10 D_r11_Check_9) :=
  lab_ok mixed_ok (labs_cons2 h_9 rfl labs_nil) 4000 (fun x => by kernel_rfl) (sd_r11_Check_10 D_r11_Check_9)
noncomputable def tt_r11_Check_16 (_D_r11_Check_9 : Dyn X_r11_Check_9 R_r11_Check) (D_r11_Check_15 : Dyn X_r11_Check_15 R_r11_Check) (x : X_r11_Check_16) : TT Tryz.prog R_r11_Check :=
 (.jump S_r11_Check_15 D_r11_Check_15 (X_r11_Check_15.mk x.p_1 x.t_6 x.l_7 (IntKind.i64.wrap (x.k_8 + 1))))
theorem sd_r11_Check_16 (D_r11_Check_9 : Dyn X_r11_Check_9 R_r11_Check) (D_r11_Check_15 : Dyn X_r11_Check_15 R_r11_Check) (x : X_r11_Check_16) : (tt_r11_Check_16 D_r11_Check_9 D_r11_Check_15 x).Sides :=
  TT.s_jump

noncomputable def D_r11_Check_16 (D_r11_Check_9 : Dyn X_r11_Check_9 R_r11_Check) (D_r11_Check_15 : Dyn X_r11_Check_15 R_r11_Check) : Dyn X_r11_Check_16 R_r11_Check := .of (tt_r11_Check_16 D_r11_Check_9 D_r11_Check_15)
theorem ok_r11_Check_16 (D_r11_Check_9 : Dyn X_r11_Check_9 R_r11_Check) (D_r11_Check_15 : Dyn X_r11_Check_15 R_r11_Check) (h_9 : LabOK J_r11_Check S_r11_Check_9 D_r11_Check_9) (h_15 : LabOK J_r11_Check S_r11_Check_15 D_r11_Check_15) : LabOK J_r11_Check S_r11_Check_16 (D_r11_Check_16 D_r11_Check_9 D_r11_Check_15) :=
  lab_ok mixed_ok (labs_cons2 h_9 rfl (labs_cons2 h_15 rfl (labs_cons2 (ok_r11_Check_10 D_r11_Check_9 h_9) rfl labs_nil))) 4000 (fun x => by kernel_rfl) (sd_r11_Check_16 D_r11_Check_9 D_r11_Check_15)
noncomputable def tt_r11_Check_20 (D_r11_Check_9 : Dyn X_r11_Check_9 R_r11_Check) (D_r11_Check_15 : Dyn X_r11_Check_15 R_r11_Check) (x : X_r11_Check_20) : TT Tryz.prog R_r11_Check :=
 (.ite (!(ieq x.e_9 0))
  (.ret (x.t_6, (x.k_8, x.e_9)))
  (.jump S_r11_Check_16 (D_r11_Check_16 D_r11_Check_9 D_r11_Check_15) (X_r11_Check_16.mk x.p_1 x.t_6 x.l_7 x.k_8))
 )
theorem sd_r11_Check_20 (D_r11_Check_9 : Dyn X_r11_Check_9 R_r11_Check) (D_r11_Check_15 : Dyn X_r11_Check_15 R_r11_Check) (x : X_r11_Check_20) : (tt_r11_Check_20 D_r11_Check_9 D_r11_Check_15 x).Sides :=
  (TT.s_ite TT.s_ret TT.s_jump)

noncomputable def D_r11_Check_20 (D_r11_Check_9 : Dyn X_r11_Check_9 R_r11_Check) (D_r11_Check_15 : Dyn X_r11_Check_15 R_r11_Check) : Dyn X_r11_Check_20 R_r11_Check := .of (tt_r11_Check_20 D_r11_Check_9 D_r11_Check_15)
theorem ok_r11_Check_20 (D_r11_Check_9 : Dyn X_r11_Check_9 R_r11_Check) (D_r11_Check_15 : Dyn X_r11_Check_15 R_r11_Check) (h_9 : LabOK J_r11_Check S_r11_Check_9 D_r11_Check_9) (h_15 : LabOK J_r11_Check S_r11_Check_15 D_r11_Check_15) : LabOK J_r11_Check S_r11_Check_20 (D_r11_Check_20 D_r11_Check_9 D_r11_Check_15) :=
  lab_ok mixed_ok (labs_cons2 h_9 rfl (labs_cons2 h_15 rfl (labs_cons2 (ok_r11_Check_10 D_r11_Check_9 h_9) rfl (labs_cons2 (ok_r11_Check_16 D_r11_Check_9 D_r11_Check_15 h_9 h_15) rfl labs_nil)))) 4000 (fun x => by kernel_rfl) (sd_r11_Check_20 D_r11_Check_9 D_r11_Check_15)
noncomputable def tt_r11_Check_15 (D_r11_Check_9 : Dyn X_r11_Check_9 R_r11_Check) (D_r11_Check_15 : Dyn X_r11_Check_15 R_r11_Check) (x : X_r11_Check_15) : TT Tryz.prog R_r11_Check :=
 (.ite (ilt x.k_8 ((x.l_7.n : Nat) : Int))
  (.need (inb x.k_8 x.l_7.n) <|
  (.call con_r09_Right (x.l_7.get (Int.toNat x.k_8)) fun (y3 : R_r09_Right) =>
  (.ite y3
   (.need (inb x.k_8 x.l_7.n) <|
   (.call con_r11_instr (x.p_1, ((x.l_7.get (Int.toNat x.k_8)), ((x.l_7.n : Nat) : Int))) fun (y4 : R_r11_instr) =>
   (.jump S_r11_Check_20 (D_r11_Check_20 D_r11_Check_9 D_r11_Check_15) (X_r11_Check_20.mk x.p_1 x.t_6 x.l_7 x.k_8 y4))
   )
   )
   (.jump S_r11_Check_20 (D_r11_Check_20 D_r11_Check_9 D_r11_Check_15) (X_r11_Check_20.mk x.p_1 x.t_6 x.l_7 x.k_8 6))
  )
  )
  )
  (.jump S_r11_Check_10 (D_r11_Check_10 D_r11_Check_9) (X_r11_Check_10.mk x.p_1 x.t_6))
 )
theorem sd_r11_Check_15 (D_r11_Check_9 : Dyn X_r11_Check_9 R_r11_Check) (D_r11_Check_15 : Dyn X_r11_Check_15 R_r11_Check) (x : X_r11_Check_15) : (tt_r11_Check_15 D_r11_Check_9 D_r11_Check_15 x).Sides :=
  (TT.s_ite (TT.s_need (TT.s_call fun _ => (TT.s_ite (TT.s_need (TT.s_call fun _ => TT.s_jump)) TT.s_jump))) TT.s_jump)

noncomputable def D_r11_Check_15 (D_r11_Check_9 : Dyn X_r11_Check_9 R_r11_Check) : Dyn X_r11_Check_15 R_r11_Check := Dyn.loop (tt_r11_Check_15 D_r11_Check_9)
theorem ok_r11_Check_15 (D_r11_Check_9 : Dyn X_r11_Check_9 R_r11_Check) (h_9 : LabOK J_r11_Check S_r11_Check_9 D_r11_Check_9) : LabOK J_r11_Check S_r11_Check_15 (D_r11_Check_15 D_r11_Check_9) :=
  loop_ok fun D_r11_Check_15 h_15 => lab_ok mixed_ok (labs_cons2 h_9 rfl (labs_cons2 h_15 rfl (labs_cons2 (ok_r11_Check_10 D_r11_Check_9 h_9) rfl (labs_cons2 (ok_r11_Check_16 D_r11_Check_9 D_r11_Check_15 h_9 h_15) rfl (labs_cons2 (ok_r11_Check_20 D_r11_Check_9 D_r11_Check_15 h_9 h_15) rfl labs_nil))))) 4000 (fun x => by kernel_rfl) (sd_r11_Check_15 D_r11_Check_9 D_r11_Check_15)
noncomputable def tt_r11_Check_9 (D_r11_Check_9 : Dyn X_r11_Check_9 R_r11_Check) (x : X_r11_Check_9) : TT Tryz.prog R_r11_Check :=
 (.ite (ilt x.t_6 ((x.p_1.Threads.n : Nat) : Int))
  (.need (inb x.t_6 x.p_1.Threads.n) <|
  (.ite (ilt 256 (((x.p_1.Threads.get (Int.toNat x.t_6)).n : Nat) : Int))
   (.ret (x.t_6, (256, 4)))
   (.jump S_r11_Check_15 (D_r11_Check_15 D_r11_Check_9) (X_r11_Check_15.mk x.p_1 x.t_6 (x.p_1.Threads.get (Int.toNat x.t_6)) 0))
  )
  )
  (.ret (0, (0, 0)))
 )
theorem sd_r11_Check_9 (D_r11_Check_9 : Dyn X_r11_Check_9 R_r11_Check) (x : X_r11_Check_9) : (tt_r11_Check_9 D_r11_Check_9 x).Sides :=
  (TT.s_ite (TT.s_need (TT.s_ite TT.s_ret TT.s_jump)) TT.s_ret)

noncomputable def D_r11_Check_9 : Dyn X_r11_Check_9 R_r11_Check := Dyn.loop tt_r11_Check_9
theorem ok_r11_Check_9 : LabOK J_r11_Check S_r11_Check_9 D_r11_Check_9 :=
  loop_ok fun D_r11_Check_9 h_9 => lab_ok mixed_ok (labs_cons2 h_9 rfl (labs_cons2 (ok_r11_Check_10 D_r11_Check_9 h_9) rfl (labs_cons2 (ok_r11_Check_15 D_r11_Check_9 h_9) rfl labs_nil))) 4000 (fun x => by kernel_rfl) (sd_r11_Check_9 D_r11_Check_9)
noncomputable def tt_r11_Check_8 (x : X_r11_Check_8) : TT Tryz.prog R_r11_Check :=
 (.jump S_r11_Check_9 D_r11_Check_9 (X_r11_Check_9.mk x.p_1 0))
theorem sd_r11_Check_8 (x : X_r11_Check_8) : (tt_r11_Check_8 x).Sides :=
  TT.s_jump

noncomputable def D_r11_Check_8 : Dyn X_r11_Check_8 R_r11_Check := .of tt_r11_Check_8
theorem ok_r11_Check_8 : LabOK J_r11_Check S_r11_Check_8 D_r11_Check_8 :=
  lab_ok mixed_ok (labs_cons2 ok_r11_Check_9 rfl labs_nil) 4000 (fun x => by kernel_rfl) sd_r11_Check_8
noncomputable def tt_r11_Check_4 (D_r11_Check_4 : Dyn X_r11_Check_4 R_r11_Check) (x : X_r11_Check_4) : TT Tryz.prog R_r11_Check :=
 (.ite (ilt x.i_5 ((x.p_1.Rings.n : Nat) : Int))
  (.need (inb x.i_5 x.p_1.Rings.n) <|
  (.call con_r11_ring (x.p_1.Rings.get (Int.toNat x.i_5)) fun (y2 : R_r11_ring) =>
  (.ite (!y2)
   (.ret ((-(1 : Int)), (x.i_5, 7)))
   (.jump S_r11_Check_4 D_r11_Check_4 (X_r11_Check_4.mk x.p_1 (IntKind.i64.wrap (x.i_5 + 1))))
  )
  )
  )
  (.jump S_r11_Check_8 D_r11_Check_8 (X_r11_Check_8.mk x.p_1))
 )
theorem sd_r11_Check_4 (D_r11_Check_4 : Dyn X_r11_Check_4 R_r11_Check) (x : X_r11_Check_4) : (tt_r11_Check_4 D_r11_Check_4 x).Sides :=
  (TT.s_ite (TT.s_need (TT.s_call fun _ => (TT.s_ite TT.s_ret TT.s_jump))) TT.s_jump)

noncomputable def D_r11_Check_4 : Dyn X_r11_Check_4 R_r11_Check := Dyn.loop tt_r11_Check_4
theorem ok_r11_Check_4 : LabOK J_r11_Check S_r11_Check_4 D_r11_Check_4 :=
  loop_ok fun D_r11_Check_4 h_4 => lab_ok mixed_ok (labs_cons2 h_4 rfl (labs_cons2 ok_r11_Check_9 rfl (labs_cons2 ok_r11_Check_8 rfl labs_nil))) 4000 (fun x => by kernel_rfl) (sd_r11_Check_4 D_r11_Check_4)
noncomputable def tt_r11_Check_3 (x : X_r11_Check_3) : TT Tryz.prog R_r11_Check :=
 (.jump S_r11_Check_4 D_r11_Check_4 (X_r11_Check_4.mk x.p_1 0))
theorem sd_r11_Check_3 (x : X_r11_Check_3) : (tt_r11_Check_3 x).Sides :=
  TT.s_jump

noncomputable def D_r11_Check_3 : Dyn X_r11_Check_3 R_r11_Check := .of tt_r11_Check_3
theorem ok_r11_Check_3 : LabOK J_r11_Check S_r11_Check_3 D_r11_Check_3 :=
  lab_ok mixed_ok (labs_cons2 ok_r11_Check_9 rfl (labs_cons2 ok_r11_Check_8 rfl (labs_cons2 ok_r11_Check_4 rfl labs_nil))) 4000 (fun x => by kernel_rfl) sd_r11_Check_3
noncomputable def tt_r11_Check (x : X_r11_Check) : TT Tryz.prog R_r11_Check :=
 (.ite (ieq ((x.Threads.n : Nat) : Int) 0)
  (.ret (0, (0, 1)))
  (.ite (ilt 8 ((x.Threads.n : Nat) : Int))
   (.ret (0, (0, 1)))
   (.ite (ilt 8 ((x.Rings.n : Nat) : Int))
    (.ret (0, (0, 1)))
    (.jump S_r11_Check_3 D_r11_Check_3 (X_r11_Check_3.mk x))
   )
  )
 )
theorem sd_r11_Check (x : X_r11_Check) : (tt_r11_Check x).Sides :=
  (TT.s_ite TT.s_ret (TT.s_ite TT.s_ret (TT.s_ite TT.s_ret TT.s_jump)))

noncomputable def D_r11_Check : Dyn X_r11_Check R_r11_Check := .of tt_r11_Check
noncomputable def con_r11_Check : Con Tryz.prog :=
  mkCon 89 J_r11_Check S_r11_Check D_r11_Check D_r11_Check (fun _ _ h => h) 1 0 [sh_TApi_Program] (by kernel_rfl) (by kernel_rfl) (by kernel_rfl) (lab_ok mixed_ok (labs_cons2 ok_r11_Check_9 rfl (labs_cons2 ok_r11_Check_8 rfl (labs_cons2 ok_r11_Check_4 rfl (labs_cons2 ok_r11_Check_3 rfl labs_nil)))) 4000 (fun x => by kernel_rfl) sd_r11_Check) rfl rfl (fun _ => rfl) (by kernel_rfl) rfl (fun _ => rfl) (fun x y _ => by kernel_rfl)

/-! rondeauref11.Right (r11_Right) -/
abbrev X_r11_Right : Type := TApi_Program
abbrev R_r11_Right : Type := Bool
noncomputable def J_r11_Right : Job Tryz.prog :=
  job Tryz.prog Tryz.f41 14 [(1, 3), (6, 1)] [] [] [] [.any] [] [con_r11_Check] R_r11_Right [] fun y => [V.bool y]
noncomputable def S_r11_Right : LabS :=
  lab0 Tryz.f41 1 0 X_r11_Right (fun x => [e_TApi_Program x]) fun l => (d_TApi_Program (at_ l 0))
noncomputable def tt_r11_Right (x : X_r11_Right) : TT Tryz.prog R_r11_Right :=
 (.call con_r11_Check x fun (y1 : R_r11_Check) =>
 (.ret (ieq y1.snd.snd 0))
 )
theorem sd_r11_Right (x : X_r11_Right) : (tt_r11_Right x).Sides :=
  (TT.s_call fun _ => TT.s_ret)

noncomputable def D_r11_Right : Dyn X_r11_Right R_r11_Right := .of tt_r11_Right
noncomputable def con_r11_Right : Con Tryz.prog :=
  mkCon 41 J_r11_Right S_r11_Right D_r11_Right D_r11_Right (fun _ _ h => h) 1 0 [sh_TApi_Program] (by kernel_rfl) (by kernel_rfl) (by kernel_rfl) (lab_ok mixed_ok labs_nil 4000 (fun x => by kernel_rfl) sd_r11_Right) rfl rfl (fun _ => rfl) (by kernel_rfl) rfl (fun _ => rfl) (fun x y _ => by kernel_rfl)

/-! rondeauref17.Right (r17_Right) -/
abbrev X_r17_Right : Type := TApi_Program
abbrev R_r17_Right : Type := Bool
noncomputable def J_r17_Right : Job Tryz.prog :=
  job Tryz.prog Tryz.f13 5 [(1, 3)] [] [] [] [.any] [] [con_r11_Right] R_r17_Right [] fun y => [V.bool y]
noncomputable def S_r17_Right : LabS :=
  lab0 Tryz.f13 1 0 X_r17_Right (fun x => [e_TApi_Program x]) fun l => (d_TApi_Program (at_ l 0))
noncomputable def tt_r17_Right (x : X_r17_Right) : TT Tryz.prog R_r17_Right :=
 (.call con_r11_Right x fun (y1 : R_r11_Right) =>
 (.ret y1)
 )
theorem sd_r17_Right (x : X_r17_Right) : (tt_r17_Right x).Sides :=
  (TT.s_call fun _ => TT.s_ret)

noncomputable def D_r17_Right : Dyn X_r17_Right R_r17_Right := .of tt_r17_Right
noncomputable def con_r17_Right : Con Tryz.prog :=
  mkCon 13 J_r17_Right S_r17_Right D_r17_Right D_r17_Right (fun _ _ h => h) 1 0 [sh_TApi_Program] (by kernel_rfl) (by kernel_rfl) (by kernel_rfl) (lab_ok mixed_ok labs_nil 4000 (fun x => by kernel_rfl) sd_r17_Right) rfl rfl (fun _ => rfl) (by kernel_rfl) rfl (fun _ => rfl) (fun x y _ => by kernel_rfl)

/-! rondeauref12.all (r12_all) -/
abbrev X_r12_all : Type := Int
abbrev R_r12_all : Type := Int
noncomputable def J_r12_all : Job Tryz.prog :=
  job Tryz.prog Tryz.f144 14 [] [] [] [] [.any] [] [] R_r12_all [] fun y => [(V.int .i64) y]
noncomputable def S_r12_all : LabS :=
  lab0 Tryz.f144 1 0 X_r12_all (fun x => [(V.int .i64) x]) fun l => (dI (at_ l 0))
structure X_r12_all_3 where
  readers_0 : Int
  n_3 : Int
  i_4 : Int
noncomputable def S_r12_all_3 : LabS :=
  labAt Tryz.f144 3 [(0, .any), (3, .any), (4, .any)] [] [] X_r12_all_3 (fun x => [(V.int .i64) x.readers_0, (V.int .i64) x.n_3, (V.int .i64) x.i_4]) fun l => ⟨dI (at_ l 0), dI (at_ l 1), dI (at_ l 2)⟩
noncomputable def tt_r12_all_3 (D_r12_all_3 : Dyn X_r12_all_3 R_r12_all) (x : X_r12_all_3) : TT Tryz.prog R_r12_all :=
 (.ite (ilt x.i_4 x.readers_0)
  (.jump S_r12_all_3 D_r12_all_3 (X_r12_all_3.mk x.readers_0 (IntKind.i64.wrap ((2 : Int) * x.n_3)) (IntKind.i64.wrap (x.i_4 + 1))))
  (.ret (IntKind.i64.wrap (x.n_3 - 1)))
 )
theorem sd_r12_all_3 (D_r12_all_3 : Dyn X_r12_all_3 R_r12_all) (x : X_r12_all_3) : (tt_r12_all_3 D_r12_all_3 x).Sides :=
  (TT.s_ite TT.s_jump TT.s_ret)

noncomputable def D_r12_all_3 : Dyn X_r12_all_3 R_r12_all := Dyn.loop tt_r12_all_3
theorem ok_r12_all_3 : LabOK J_r12_all S_r12_all_3 D_r12_all_3 :=
  loop_ok fun D_r12_all_3 h_3 => lab_ok mixed_ok (labs_cons2 h_3 rfl labs_nil) 4000 (fun x => by kernel_rfl) (sd_r12_all_3 D_r12_all_3)
noncomputable def tt_r12_all (x : X_r12_all) : TT Tryz.prog R_r12_all :=
 (.jump S_r12_all_3 D_r12_all_3 (X_r12_all_3.mk x 1 0))
theorem sd_r12_all (x : X_r12_all) : (tt_r12_all x).Sides :=
  TT.s_jump

noncomputable def D_r12_all : Dyn X_r12_all R_r12_all := .of tt_r12_all
noncomputable def con_r12_all : Con Tryz.prog :=
  mkCon 144 J_r12_all S_r12_all D_r12_all D_r12_all (fun _ _ h => h) 1 0 [.any] (by kernel_rfl) (by kernel_rfl) (by kernel_rfl) (lab_ok mixed_ok (labs_cons2 ok_r12_all_3 rfl labs_nil) 4000 (fun x => by kernel_rfl) sd_r12_all) rfl rfl (fun _ => rfl) (by kernel_rfl) rfl (fun _ => rfl) (fun x y _ => by kernel_rfl)

/-! rondeauref12.Right (r12_Right) -/
abbrev X_r12_Right : Type := Int × Int × (Sl TApi_Slot)
abbrev R_r12_Right : Type := Bool
noncomputable def J_r12_Right : Job Tryz.prog :=
  job Tryz.prog Tryz.f92 71 [] [] [] [] [.any] [] [con_r12_all] R_r12_Right [] fun y => [V.bool y]
noncomputable def S_r12_Right : LabS :=
  lab0 Tryz.f92 3 0 X_r12_Right (fun x => [(V.int .i64) x.1, (V.int .i64) x.2.1, esl_TApi_Slot x.2.2]) fun l => (dI (at_ l 0), dI (at_ l 1), dsl_TApi_Slot (at_ l 2))
structure X_r12_Right_4 where
  places_0 : Int
  readers_1 : Int
  l_2 : (Sl TApi_Slot)
  i_7 : Int
noncomputable def S_r12_Right_4 : LabS :=
  labAt Tryz.f92 4 [(0, .any), (1, .any), (2, hsl_TApi_Slot), (7, .any)] [] [] X_r12_Right_4 (fun x => [(V.int .i64) x.places_0, (V.int .i64) x.readers_1, esl_TApi_Slot x.l_2, (V.int .i64) x.i_7]) fun l => ⟨dI (at_ l 0), dI (at_ l 1), dsl_TApi_Slot (at_ l 2), dI (at_ l 3)⟩
structure X_r12_Right_5 where
  places_0 : Int
  readers_1 : Int
  l_2 : (Sl TApi_Slot)
  i_7 : Int
noncomputable def S_r12_Right_5 : LabS :=
  labAt Tryz.f92 5 [(0, .any), (1, .any), (2, hsl_TApi_Slot), (7, .any)] [] [] X_r12_Right_5 (fun x => [(V.int .i64) x.places_0, (V.int .i64) x.readers_1, esl_TApi_Slot x.l_2, (V.int .i64) x.i_7]) fun l => ⟨dI (at_ l 0), dI (at_ l 1), dsl_TApi_Slot (at_ l 2), dI (at_ l 3)⟩
structure X_r12_Right_10 where
  places_0 : Int
  readers_1 : Int
  l_2 : (Sl TApi_Slot)
  i_7 : Int
  m_8 : TApi_Slot
noncomputable def S_r12_Right_10 : LabS :=
  labAt Tryz.f92 10 [(0, .any), (1, .any), (2, hsl_TApi_Slot), (7, .any), (8, .any)] [] [(.loc 8 0, .any)] X_r12_Right_10 (fun x => [(V.int .i64) x.places_0, (V.int .i64) x.readers_1, esl_TApi_Slot x.l_2, (V.int .i64) x.i_7, (V.ptr (.loc 8 0) []), e_TApi_Slot x.m_8]) fun l => ⟨dI (at_ l 0), dI (at_ l 1), dsl_TApi_Slot (at_ l 2), dI (at_ l 3), d_TApi_Slot (at_ l 5)⟩
noncomputable def tt_r12_Right_5 (D_r12_Right_4 : Dyn X_r12_Right_4 R_r12_Right) (x : X_r12_Right_5) : TT Tryz.prog R_r12_Right :=
 (.jump S_r12_Right_4 D_r12_Right_4 (X_r12_Right_4.mk x.places_0 x.readers_1 x.l_2 (IntKind.i64.wrap (x.i_7 + 1))))
theorem sd_r12_Right_5 (D_r12_Right_4 : Dyn X_r12_Right_4 R_r12_Right) (x : X_r12_Right_5) : (tt_r12_Right_5 D_r12_Right_4 x).Sides :=
  TT.s_jump

noncomputable def D_r12_Right_5 (D_r12_Right_4 : Dyn X_r12_Right_4 R_r12_Right) : Dyn X_r12_Right_5 R_r12_Right := .of (tt_r12_Right_5 D_r12_Right_4)
theorem ok_r12_Right_5 (D_r12_Right_4 : Dyn X_r12_Right_4 R_r12_Right) (h_4 : LabOK J_r12_Right S_r12_Right_4 D_r12_Right_4) : LabOK J_r12_Right S_r12_Right_5 (D_r12_Right_5 D_r12_Right_4) :=
  lab_ok mixed_ok (labs_cons2 h_4 rfl labs_nil) 4000 (fun x => by kernel_rfl) (sd_r12_Right_5 D_r12_Right_4)
noncomputable def tt_r12_Right_10 (D_r12_Right_4 : Dyn X_r12_Right_4 R_r12_Right) (x : X_r12_Right_10) : TT Tryz.prog R_r12_Right :=
 (.ite (ieq (Int.tmod x.m_8.Stamp 2) 0)
  (.ite (!(ieq x.m_8.Value 0))
   (.ret false)
   (.ite (!(ieq x.m_8.Left 0))
    (.ret false)
    (.ite (ieq (Int.tmod x.m_8.Stamp 2) 1)
     (.ite (ilt x.m_8.Left 1)
      (.ret false)
      (.call con_r12_all x.readers_1 fun (y2 : R_r12_all) =>
      (.ite (ilt y2 x.m_8.Left)
       (.ret false)
       (.jump S_r12_Right_5 (D_r12_Right_5 D_r12_Right_4) (X_r12_Right_5.mk x.places_0 x.readers_1 x.l_2 x.i_7))
      )
      )
     )
     (.jump S_r12_Right_5 (D_r12_Right_5 D_r12_Right_4) (X_r12_Right_5.mk x.places_0 x.readers_1 x.l_2 x.i_7))
    )
   )
  )
  (.ite (ieq (Int.tmod x.m_8.Stamp 2) 1)
   (.ite (ilt x.m_8.Left 1)
    (.ret false)
    (.call con_r12_all x.readers_1 fun (y2 : R_r12_all) =>
    (.ite (ilt y2 x.m_8.Left)
     (.ret false)
     (.jump S_r12_Right_5 (D_r12_Right_5 D_r12_Right_4) (X_r12_Right_5.mk x.places_0 x.readers_1 x.l_2 x.i_7))
    )
    )
   )
   (.jump S_r12_Right_5 (D_r12_Right_5 D_r12_Right_4) (X_r12_Right_5.mk x.places_0 x.readers_1 x.l_2 x.i_7))
  )
 )
theorem sd_r12_Right_10 (D_r12_Right_4 : Dyn X_r12_Right_4 R_r12_Right) (x : X_r12_Right_10) : (tt_r12_Right_10 D_r12_Right_4 x).Sides :=
  (TT.s_ite (TT.s_ite TT.s_ret (TT.s_ite TT.s_ret (TT.s_ite (TT.s_ite TT.s_ret (TT.s_call fun _ => (TT.s_ite TT.s_ret TT.s_jump))) TT.s_jump))) (TT.s_ite (TT.s_ite TT.s_ret (TT.s_call fun _ => (TT.s_ite TT.s_ret TT.s_jump))) TT.s_jump))

noncomputable def D_r12_Right_10 (D_r12_Right_4 : Dyn X_r12_Right_4 R_r12_Right) : Dyn X_r12_Right_10 R_r12_Right := .of (tt_r12_Right_10 D_r12_Right_4)
theorem ok_r12_Right_10 (D_r12_Right_4 : Dyn X_r12_Right_4 R_r12_Right) (h_4 : LabOK J_r12_Right S_r12_Right_4 D_r12_Right_4) : LabOK J_r12_Right S_r12_Right_10 (D_r12_Right_10 D_r12_Right_4) :=
  lab_ok mixed_ok (labs_cons2 h_4 rfl (labs_cons2 (ok_r12_Right_5 D_r12_Right_4 h_4) rfl labs_nil)) 4000 (fun x => by kernel_rfl) (sd_r12_Right_10 D_r12_Right_4)
noncomputable def tt_r12_Right_4 (D_r12_Right_4 : Dyn X_r12_Right_4 R_r12_Right) (x : X_r12_Right_4) : TT Tryz.prog R_r12_Right :=
 (.ite (ilt x.i_7 ((x.l_2.n : Nat) : Int))
  (.need (inb x.i_7 x.l_2.n) <|
  (.ite (ile 9223372036854775808 (x.l_2.get (Int.toNat x.i_7)).Stamp)
   (.ret false)
   (.need (!(ieq (IntKind.u64.wrap x.places_0) 0)) <|
   (.ite (!(ieq (Int.tmod (IntKind.u64.wrap (Int.tdiv (x.l_2.get (Int.toNat x.i_7)).Stamp 2)) (IntKind.u64.wrap x.places_0)) (IntKind.u64.wrap x.i_7)))
    (.ret false)
    (.jump S_r12_Right_10 (D_r12_Right_10 D_r12_Right_4) (X_r12_Right_10.mk x.places_0 x.readers_1 x.l_2 x.i_7 (x.l_2.get (Int.toNat x.i_7))))
   )
   )
  )
  )
  (.ret true)
 )
theorem sd_r12_Right_4 (D_r12_Right_4 : Dyn X_r12_Right_4 R_r12_Right) (x : X_r12_Right_4) : (tt_r12_Right_4 D_r12_Right_4 x).Sides :=
  (TT.s_ite (TT.s_need (TT.s_ite TT.s_ret (TT.s_need (TT.s_ite TT.s_ret TT.s_jump)))) TT.s_ret)

noncomputable def D_r12_Right_4 : Dyn X_r12_Right_4 R_r12_Right := Dyn.loop tt_r12_Right_4
theorem ok_r12_Right_4 : LabOK J_r12_Right S_r12_Right_4 D_r12_Right_4 :=
  loop_ok fun D_r12_Right_4 h_4 => lab_ok mixed_ok (labs_cons2 h_4 rfl (labs_cons2 (ok_r12_Right_5 D_r12_Right_4 h_4) rfl (labs_cons2 (ok_r12_Right_10 D_r12_Right_4 h_4) rfl labs_nil))) 4000 (fun x => by kernel_rfl) (sd_r12_Right_4 D_r12_Right_4)
noncomputable def tt_r12_Right (x : X_r12_Right) : TT Tryz.prog R_r12_Right :=
 (.ite (!(ieq ((x.snd.snd.n : Nat) : Int) x.fst))
  (.ret false)
  (.jump S_r12_Right_4 D_r12_Right_4 (X_r12_Right_4.mk x.fst x.snd.fst x.snd.snd 0))
 )
theorem sd_r12_Right (x : X_r12_Right) : (tt_r12_Right x).Sides :=
  (TT.s_ite TT.s_ret TT.s_jump)

noncomputable def D_r12_Right : Dyn X_r12_Right R_r12_Right := .of tt_r12_Right
noncomputable def con_r12_Right : Con Tryz.prog :=
  mkCon 92 J_r12_Right S_r12_Right D_r12_Right D_r12_Right (fun _ _ h => h) 3 0 [.any, .any, hsl_TApi_Slot] (by kernel_rfl) (by kernel_rfl) (by kernel_rfl) (lab_ok mixed_ok (labs_cons2 ok_r12_Right_4 rfl labs_nil) 4000 (fun x => by kernel_rfl) sd_r12_Right) rfl rfl (fun _ => rfl) (by kernel_rfl) rfl (fun _ => rfl) (fun x y _ => by kernel_rfl)

/-! rondeauref13.place (r13_place) -/
abbrev X_r13_place : Type := TApi_Slot × Int × Int × (Sl Int)
abbrev R_r13_place : Type := Bool
noncomputable def J_r13_place : Job Tryz.prog :=
  job Tryz.prog Tryz.f93 70 [(4, 3)] [] [] [] [.any] [] [] R_r13_place [] fun y => [V.bool y]
noncomputable def S_r13_place : LabS :=
  lab0 Tryz.f93 4 0 X_r13_place (fun x => [e_TApi_Slot x.1, (V.int .u64) x.2.1, (V.int .u64) x.2.2.1, esl_u64 x.2.2.2]) fun l => (d_TApi_Slot (at_ l 0), dI (at_ l 1), dI (at_ l 2), dsl_u64 (at_ l 3))
structure X_r13_place_4 where
  c_1 : Int
  heads_3 : (Sl Int)
  x_4 : TApi_Slot
  t_9 : Int
noncomputable def S_r13_place_4 : LabS :=
  labAt Tryz.f93 4 [(1, .any), (3, hsl_u64), (4, .any), (9, .any)] [] [] X_r13_place_4 (fun x => [(V.int .u64) x.c_1, esl_u64 x.heads_3, (eVp e_TApi_Slot) x.x_4, (V.int .u64) x.t_9]) fun l => ⟨dI (at_ l 0), dsl_u64 (at_ l 1), (dVp d_TApi_Slot) (at_ l 2), dI (at_ l 3)⟩
structure X_r13_place_6 where
  c_1 : Int
  heads_3 : (Sl Int)
  x_4 : TApi_Slot
  t_9 : Int
  left_10 : Int
  j_11 : Int
noncomputable def S_r13_place_6 : LabS :=
  labAt Tryz.f93 6 [(1, .any), (3, hsl_u64), (4, .any), (9, .any), (10, .any), (11, .any)] [] [] X_r13_place_6 (fun x => [(V.int .u64) x.c_1, esl_u64 x.heads_3, (eVp e_TApi_Slot) x.x_4, (V.int .u64) x.t_9, (V.int .i64) x.left_10, (V.int .i64) x.j_11]) fun l => ⟨dI (at_ l 0), dsl_u64 (at_ l 1), (dVp d_TApi_Slot) (at_ l 2), dI (at_ l 3), dI (at_ l 4), dI (at_ l 5)⟩
structure X_r13_place_7 where
  c_1 : Int
  heads_3 : (Sl Int)
  x_4 : TApi_Slot
  t_9 : Int
  left_10 : Int
  j_11 : Int
noncomputable def S_r13_place_7 : LabS :=
  labAt Tryz.f93 7 [(1, .any), (3, hsl_u64), (4, .any), (9, .any), (10, .any), (11, .any)] [] [] X_r13_place_7 (fun x => [(V.int .u64) x.c_1, esl_u64 x.heads_3, (eVp e_TApi_Slot) x.x_4, (V.int .u64) x.t_9, (V.int .i64) x.left_10, (V.int .i64) x.j_11]) fun l => ⟨dI (at_ l 0), dsl_u64 (at_ l 1), (dVp d_TApi_Slot) (at_ l 2), dI (at_ l 3), dI (at_ l 4), dI (at_ l 5)⟩
structure X_r13_place_10 where
  c_1 : Int
  heads_3 : (Sl Int)
  x_4 : TApi_Slot
  t_9 : Int
  left_10 : Int
  j_11 : Int
noncomputable def S_r13_place_10 : LabS :=
  labAt Tryz.f93 10 [(1, .any), (3, hsl_u64), (4, .any), (9, .any), (10, .any), (11, .any)] [] [] X_r13_place_10 (fun x => [(V.int .u64) x.c_1, esl_u64 x.heads_3, (eVp e_TApi_Slot) x.x_4, (V.int .u64) x.t_9, (V.int .i64) x.left_10, (V.int .i64) x.j_11]) fun l => ⟨dI (at_ l 0), dsl_u64 (at_ l 1), (dVp d_TApi_Slot) (at_ l 2), dI (at_ l 3), dI (at_ l 4), dI (at_ l 5)⟩
structure X_r13_place_12 where
  c_1 : Int
  heads_3 : (Sl Int)
  x_4 : TApi_Slot
  t_9 : Int
  left_10 : Int
  j_11 : Int
noncomputable def S_r13_place_12 : LabS :=
  labAt Tryz.f93 12 [(1, .any), (3, hsl_u64), (4, .any), (9, .any), (10, .any), (11, .any)] [] [] X_r13_place_12 (fun x => [(V.int .u64) x.c_1, esl_u64 x.heads_3, (eVp e_TApi_Slot) x.x_4, (V.int .u64) x.t_9, (V.int .i64) x.left_10, (V.int .i64) x.j_11]) fun l => ⟨dI (at_ l 0), dsl_u64 (at_ l 1), (dVp d_TApi_Slot) (at_ l 2), dI (at_ l 3), dI (at_ l 4), dI (at_ l 5)⟩
noncomputable def tt_r13_place_7 (D_r13_place_6 : Dyn X_r13_place_6 R_r13_place) (x : X_r13_place_7) : TT Tryz.prog R_r13_place :=
 (.jump S_r13_place_6 D_r13_place_6 (X_r13_place_6.mk x.c_1 x.heads_3 x.x_4 x.t_9 x.left_10 (IntKind.i64.wrap (x.j_11 + 1))))
theorem sd_r13_place_7 (D_r13_place_6 : Dyn X_r13_place_6 R_r13_place) (x : X_r13_place_7) : (tt_r13_place_7 D_r13_place_6 x).Sides :=
  TT.s_jump

noncomputable def D_r13_place_7 (D_r13_place_6 : Dyn X_r13_place_6 R_r13_place) : Dyn X_r13_place_7 R_r13_place := .of (tt_r13_place_7 D_r13_place_6)
theorem ok_r13_place_7 (D_r13_place_6 : Dyn X_r13_place_6 R_r13_place) (h_6 : LabOK J_r13_place S_r13_place_6 D_r13_place_6) : LabOK J_r13_place S_r13_place_7 (D_r13_place_7 D_r13_place_6) :=
  lab_ok mixed_ok (labs_cons2 h_6 rfl labs_nil) 4000 (fun x => by kernel_rfl) (sd_r13_place_7 D_r13_place_6)
noncomputable def tt_r13_place_12 (D_r13_place_6 : Dyn X_r13_place_6 R_r13_place) (x : X_r13_place_12) : TT Tryz.prog R_r13_place :=
 (.jump S_r13_place_7 (D_r13_place_7 D_r13_place_6) (X_r13_place_7.mk x.c_1 x.heads_3 x.x_4 x.t_9 (IntKind.i64.wrap (Int.tdiv x.left_10 2)) x.j_11))
theorem sd_r13_place_12 (D_r13_place_6 : Dyn X_r13_place_6 R_r13_place) (x : X_r13_place_12) : (tt_r13_place_12 D_r13_place_6 x).Sides :=
  TT.s_jump

noncomputable def D_r13_place_12 (D_r13_place_6 : Dyn X_r13_place_6 R_r13_place) : Dyn X_r13_place_12 R_r13_place := .of (tt_r13_place_12 D_r13_place_6)
theorem ok_r13_place_12 (D_r13_place_6 : Dyn X_r13_place_6 R_r13_place) (h_6 : LabOK J_r13_place S_r13_place_6 D_r13_place_6) : LabOK J_r13_place S_r13_place_12 (D_r13_place_12 D_r13_place_6) :=
  lab_ok mixed_ok (labs_cons2 h_6 rfl (labs_cons2 (ok_r13_place_7 D_r13_place_6 h_6) rfl labs_nil)) 4000 (fun x => by kernel_rfl) (sd_r13_place_12 D_r13_place_6)
noncomputable def tt_r13_place_10 (D_r13_place_6 : Dyn X_r13_place_6 R_r13_place) (x : X_r13_place_10) : TT Tryz.prog R_r13_place :=
 (.ite (ieq (Int.tmod x.x_4.Stamp 2) 0)
  (.ite (ile x.c_1 x.t_9)
   (.need (inb x.j_11 x.heads_3.n) <|
   (.ite (ile (x.heads_3.get (Int.toNat x.j_11)) (IntKind.u64.wrap (x.t_9 - x.c_1)))
    (.ret false)
    (.jump S_r13_place_12 (D_r13_place_12 D_r13_place_6) (X_r13_place_12.mk x.c_1 x.heads_3 x.x_4 x.t_9 x.left_10 x.j_11))
   )
   )
   (.jump S_r13_place_12 (D_r13_place_12 D_r13_place_6) (X_r13_place_12.mk x.c_1 x.heads_3 x.x_4 x.t_9 x.left_10 x.j_11))
  )
  (.jump S_r13_place_12 (D_r13_place_12 D_r13_place_6) (X_r13_place_12.mk x.c_1 x.heads_3 x.x_4 x.t_9 x.left_10 x.j_11))
 )
theorem sd_r13_place_10 (D_r13_place_6 : Dyn X_r13_place_6 R_r13_place) (x : X_r13_place_10) : (tt_r13_place_10 D_r13_place_6 x).Sides :=
  (TT.s_ite (TT.s_ite (TT.s_need (TT.s_ite TT.s_ret TT.s_jump)) TT.s_jump) TT.s_jump)

noncomputable def D_r13_place_10 (D_r13_place_6 : Dyn X_r13_place_6 R_r13_place) : Dyn X_r13_place_10 R_r13_place := .of (tt_r13_place_10 D_r13_place_6)
theorem ok_r13_place_10 (D_r13_place_6 : Dyn X_r13_place_6 R_r13_place) (h_6 : LabOK J_r13_place S_r13_place_6 D_r13_place_6) : LabOK J_r13_place S_r13_place_10 (D_r13_place_10 D_r13_place_6) :=
  lab_ok mixed_ok (labs_cons2 h_6 rfl (labs_cons2 (ok_r13_place_7 D_r13_place_6 h_6) rfl (labs_cons2 (ok_r13_place_12 D_r13_place_6 h_6) rfl labs_nil))) 4000 (fun x => by kernel_rfl) (sd_r13_place_10 D_r13_place_6)
noncomputable def tt_r13_place_6 (D_r13_place_6 : Dyn X_r13_place_6 R_r13_place) (x : X_r13_place_6) : TT Tryz.prog R_r13_place :=
 (.ite (ilt x.j_11 ((x.heads_3.n : Nat) : Int))
  (.ite (ieq (Int.tmod x.x_4.Stamp 2) 1)
   (.ite (ieq (Int.tmod x.left_10 2) 0)
    (.need (inb x.j_11 x.heads_3.n) <|
    (.ite (ile (x.heads_3.get (Int.toNat x.j_11)) x.t_9)
     (.ret false)
     (.jump S_r13_place_10 (D_r13_place_10 D_r13_place_6) (X_r13_place_10.mk x.c_1 x.heads_3 x.x_4 x.t_9 x.left_10 x.j_11))
    )
    )
    (.jump S_r13_place_10 (D_r13_place_10 D_r13_place_6) (X_r13_place_10.mk x.c_1 x.heads_3 x.x_4 x.t_9 x.left_10 x.j_11))
   )
   (.jump S_r13_place_10 (D_r13_place_10 D_r13_place_6) (X_r13_place_10.mk x.c_1 x.heads_3 x.x_4 x.t_9 x.left_10 x.j_11))
  )
  (.ret true)
 )
theorem sd_r13_place_6 (D_r13_place_6 : Dyn X_r13_place_6 R_r13_place) (x : X_r13_place_6) : (tt_r13_place_6 D_r13_place_6 x).Sides :=
  (TT.s_ite (TT.s_ite (TT.s_ite (TT.s_need (TT.s_ite TT.s_ret TT.s_jump)) TT.s_jump) TT.s_jump) TT.s_ret)

noncomputable def D_r13_place_6 : Dyn X_r13_place_6 R_r13_place := Dyn.loop tt_r13_place_6
theorem ok_r13_place_6 : LabOK J_r13_place S_r13_place_6 D_r13_place_6 :=
  loop_ok fun D_r13_place_6 h_6 => lab_ok mixed_ok (labs_cons2 h_6 rfl (labs_cons2 (ok_r13_place_7 D_r13_place_6 h_6) rfl (labs_cons2 (ok_r13_place_12 D_r13_place_6 h_6) rfl (labs_cons2 (ok_r13_place_10 D_r13_place_6 h_6) rfl labs_nil)))) 4000 (fun x => by kernel_rfl) (sd_r13_place_6 D_r13_place_6)
noncomputable def tt_r13_place_4 (x : X_r13_place_4) : TT Tryz.prog R_r13_place :=
 (.jump S_r13_place_6 D_r13_place_6 (X_r13_place_6.mk x.c_1 x.heads_3 x.x_4 x.t_9 x.x_4.Left 0))
theorem sd_r13_place_4 (x : X_r13_place_4) : (tt_r13_place_4 x).Sides :=
  TT.s_jump

noncomputable def D_r13_place_4 : Dyn X_r13_place_4 R_r13_place := .of tt_r13_place_4
theorem ok_r13_place_4 : LabOK J_r13_place S_r13_place_4 D_r13_place_4 :=
  lab_ok mixed_ok (labs_cons2 ok_r13_place_6 rfl labs_nil) 4000 (fun x => by kernel_rfl) sd_r13_place_4
noncomputable def tt_r13_place (x : X_r13_place) : TT Tryz.prog R_r13_place :=
 (.ite (ieq (Int.tmod x.fst.Stamp 2) 1)
  (.ite (ile x.snd.snd.fst (IntKind.u64.wrap (Int.tdiv x.fst.Stamp 2)))
   (.ret false)
   (.jump S_r13_place_4 D_r13_place_4 (X_r13_place_4.mk x.snd.fst x.snd.snd.snd x.fst (IntKind.u64.wrap (Int.tdiv x.fst.Stamp 2))))
  )
  (.jump S_r13_place_4 D_r13_place_4 (X_r13_place_4.mk x.snd.fst x.snd.snd.snd x.fst (IntKind.u64.wrap (Int.tdiv x.fst.Stamp 2))))
 )
theorem sd_r13_place (x : X_r13_place) : (tt_r13_place x).Sides :=
  (TT.s_ite (TT.s_ite TT.s_ret TT.s_jump) TT.s_jump)

noncomputable def D_r13_place : Dyn X_r13_place R_r13_place := .of tt_r13_place
noncomputable def con_r13_place : Con Tryz.prog :=
  mkCon 93 J_r13_place S_r13_place D_r13_place D_r13_place (fun _ _ h => h) 4 0 [.any, .any, .any, hsl_u64] (by kernel_rfl) (by kernel_rfl) (by kernel_rfl) (lab_ok mixed_ok (labs_cons2 ok_r13_place_6 rfl (labs_cons2 ok_r13_place_4 rfl labs_nil)) 4000 (fun x => by kernel_rfl) sd_r13_place) rfl rfl (fun _ => rfl) (by kernel_rfl) rfl (fun _ => rfl) (fun x y _ => by kernel_rfl)

/-! rondeauref13.Loads (r13_Loads) -/
abbrev X_r13_Loads : Type := TApi_Ring × TApi_RingState
abbrev R_r13_Loads : Type := Bool
noncomputable def J_r13_Loads : Job Tryz.prog :=
  job Tryz.prog Tryz.f48 78 [(2, 3), (3, 3)] [] [] [] [.any] [] [con_r12_Right, con_r13_place] R_r13_Loads [] fun y => [V.bool y]
noncomputable def S_r13_Loads : LabS :=
  lab0 Tryz.f48 2 0 X_r13_Loads (fun x => [e_TApi_Ring x.1, e_TApi_RingState x.2]) fun l => (d_TApi_Ring (at_ l 0), d_TApi_RingState (at_ l 1))
structure X_r13_Loads_3 where
  r_2 : TApi_Ring
  s_3 : TApi_RingState
noncomputable def S_r13_Loads_3 : LabS :=
  labAt Tryz.f48 3 [(2, .any), (3, .any)] [] [] X_r13_Loads_3 (fun x => [(eVp e_TApi_Ring) x.r_2, (eVp e_TApi_RingState) x.s_3]) fun l => ⟨(dVp d_TApi_Ring) (at_ l 0), (dVp d_TApi_RingState) (at_ l 1)⟩
structure X_r13_Loads_4 where
  r_2 : TApi_Ring
  s_3 : TApi_RingState
  j_5 : Int
noncomputable def S_r13_Loads_4 : LabS :=
  labAt Tryz.f48 4 [(2, .any), (3, .any), (5, .any)] [] [] X_r13_Loads_4 (fun x => [(eVp e_TApi_Ring) x.r_2, (eVp e_TApi_RingState) x.s_3, (V.int .i64) x.j_5]) fun l => ⟨(dVp d_TApi_Ring) (at_ l 0), (dVp d_TApi_RingState) (at_ l 1), dI (at_ l 2)⟩
structure X_r13_Loads_5 where
  r_2 : TApi_Ring
  s_3 : TApi_RingState
  j_5 : Int
noncomputable def S_r13_Loads_5 : LabS :=
  labAt Tryz.f48 5 [(2, .any), (3, .any), (5, .any)] [] [] X_r13_Loads_5 (fun x => [(eVp e_TApi_Ring) x.r_2, (eVp e_TApi_RingState) x.s_3, (V.int .i64) x.j_5]) fun l => ⟨(dVp d_TApi_Ring) (at_ l 0), (dVp d_TApi_RingState) (at_ l 1), dI (at_ l 2)⟩
structure X_r13_Loads_8 where
  r_2 : TApi_Ring
  s_3 : TApi_RingState
noncomputable def S_r13_Loads_8 : LabS :=
  labAt Tryz.f48 8 [(2, .any), (3, .any)] [] [] X_r13_Loads_8 (fun x => [(eVp e_TApi_Ring) x.r_2, (eVp e_TApi_RingState) x.s_3]) fun l => ⟨(dVp d_TApi_Ring) (at_ l 0), (dVp d_TApi_RingState) (at_ l 1)⟩
structure X_r13_Loads_9 where
  r_2 : TApi_Ring
  s_3 : TApi_RingState
  i_6 : Int
noncomputable def S_r13_Loads_9 : LabS :=
  labAt Tryz.f48 9 [(2, .any), (3, .any), (6, .any)] [] [] X_r13_Loads_9 (fun x => [(eVp e_TApi_Ring) x.r_2, (eVp e_TApi_RingState) x.s_3, (V.int .i64) x.i_6]) fun l => ⟨(dVp d_TApi_Ring) (at_ l 0), (dVp d_TApi_RingState) (at_ l 1), dI (at_ l 2)⟩
noncomputable def tt_r13_Loads_9 (D_r13_Loads_9 : Dyn X_r13_Loads_9 R_r13_Loads) (x : X_r13_Loads_9) : TT Tryz.prog R_r13_Loads :=
 (.ite (ilt x.i_6 ((x.s_3.Slots.n : Nat) : Int))
  (.need (inb x.i_6 x.s_3.Slots.n) <|
  (.call con_r13_place ((x.s_3.Slots.get (Int.toNat x.i_6)), ((IntKind.u64.wrap x.r_2.Cap), (x.s_3.Tail, x.s_3.Heads))) fun (y2 : R_r13_place) =>
  (.ite (!y2)
   (.ret false)
   (.jump S_r13_Loads_9 D_r13_Loads_9 (X_r13_Loads_9.mk x.r_2 x.s_3 (IntKind.i64.wrap (x.i_6 + 1))))
  )
  )
  )
  (.ret true)
 )
theorem sd_r13_Loads_9 (D_r13_Loads_9 : Dyn X_r13_Loads_9 R_r13_Loads) (x : X_r13_Loads_9) : (tt_r13_Loads_9 D_r13_Loads_9 x).Sides :=
  (TT.s_ite (TT.s_need (TT.s_call fun _ => (TT.s_ite TT.s_ret TT.s_jump))) TT.s_ret)

noncomputable def D_r13_Loads_9 : Dyn X_r13_Loads_9 R_r13_Loads := Dyn.loop tt_r13_Loads_9
theorem ok_r13_Loads_9 : LabOK J_r13_Loads S_r13_Loads_9 D_r13_Loads_9 :=
  loop_ok fun D_r13_Loads_9 h_9 => lab_ok mixed_ok (labs_cons2 h_9 rfl labs_nil) 4000 (fun x => by kernel_rfl) (sd_r13_Loads_9 D_r13_Loads_9)
noncomputable def tt_r13_Loads_8 (x : X_r13_Loads_8) : TT Tryz.prog R_r13_Loads :=
 (.jump S_r13_Loads_9 D_r13_Loads_9 (X_r13_Loads_9.mk x.r_2 x.s_3 0))
theorem sd_r13_Loads_8 (x : X_r13_Loads_8) : (tt_r13_Loads_8 x).Sides :=
  TT.s_jump

noncomputable def D_r13_Loads_8 : Dyn X_r13_Loads_8 R_r13_Loads := .of tt_r13_Loads_8
theorem ok_r13_Loads_8 : LabOK J_r13_Loads S_r13_Loads_8 D_r13_Loads_8 :=
  lab_ok mixed_ok (labs_cons2 ok_r13_Loads_9 rfl labs_nil) 4000 (fun x => by kernel_rfl) sd_r13_Loads_8
noncomputable def tt_r13_Loads_5 (D_r13_Loads_4 : Dyn X_r13_Loads_4 R_r13_Loads) (x : X_r13_Loads_5) : TT Tryz.prog R_r13_Loads :=
 (.jump S_r13_Loads_4 D_r13_Loads_4 (X_r13_Loads_4.mk x.r_2 x.s_3 (IntKind.i64.wrap (x.j_5 + 1))))
theorem sd_r13_Loads_5 (D_r13_Loads_4 : Dyn X_r13_Loads_4 R_r13_Loads) (x : X_r13_Loads_5) : (tt_r13_Loads_5 D_r13_Loads_4 x).Sides :=
  TT.s_jump

noncomputable def D_r13_Loads_5 (D_r13_Loads_4 : Dyn X_r13_Loads_4 R_r13_Loads) : Dyn X_r13_Loads_5 R_r13_Loads := .of (tt_r13_Loads_5 D_r13_Loads_4)
theorem ok_r13_Loads_5 (D_r13_Loads_4 : Dyn X_r13_Loads_4 R_r13_Loads) (h_4 : LabOK J_r13_Loads S_r13_Loads_4 D_r13_Loads_4) : LabOK J_r13_Loads S_r13_Loads_5 (D_r13_Loads_5 D_r13_Loads_4) :=
  lab_ok mixed_ok (labs_cons2 h_4 rfl (labs_cons2 ok_r13_Loads_9 rfl (labs_cons2 ok_r13_Loads_8 rfl labs_nil))) 4000 (fun x => by kernel_rfl) (sd_r13_Loads_5 D_r13_Loads_4)
noncomputable def tt_r13_Loads_4 (D_r13_Loads_4 : Dyn X_r13_Loads_4 R_r13_Loads) (x : X_r13_Loads_4) : TT Tryz.prog R_r13_Loads :=
 (.ite (ilt x.j_5 ((x.s_3.Heads.n : Nat) : Int))
  (.need (inb x.j_5 x.s_3.Heads.n) <|
  (.ite (ilt x.s_3.Tail (x.s_3.Heads.get (Int.toNat x.j_5)))
   (.ret false)
   (.need (inb x.j_5 x.s_3.Heads.n) <|
   (.ite (ilt (IntKind.u64.wrap x.r_2.Cap) (IntKind.u64.wrap (x.s_3.Tail - (x.s_3.Heads.get (Int.toNat x.j_5)))))
    (.ret false)
    (.jump S_r13_Loads_5 (D_r13_Loads_5 D_r13_Loads_4) (X_r13_Loads_5.mk x.r_2 x.s_3 x.j_5))
   )
   )
  )
  )
  (.jump S_r13_Loads_8 D_r13_Loads_8 (X_r13_Loads_8.mk x.r_2 x.s_3))
 )
theorem sd_r13_Loads_4 (D_r13_Loads_4 : Dyn X_r13_Loads_4 R_r13_Loads) (x : X_r13_Loads_4) : (tt_r13_Loads_4 D_r13_Loads_4 x).Sides :=
  (TT.s_ite (TT.s_need (TT.s_ite TT.s_ret (TT.s_need (TT.s_ite TT.s_ret TT.s_jump)))) TT.s_jump)

noncomputable def D_r13_Loads_4 : Dyn X_r13_Loads_4 R_r13_Loads := Dyn.loop tt_r13_Loads_4
theorem ok_r13_Loads_4 : LabOK J_r13_Loads S_r13_Loads_4 D_r13_Loads_4 :=
  loop_ok fun D_r13_Loads_4 h_4 => lab_ok mixed_ok (labs_cons2 h_4 rfl (labs_cons2 ok_r13_Loads_9 rfl (labs_cons2 ok_r13_Loads_8 rfl (labs_cons2 (ok_r13_Loads_5 D_r13_Loads_4 h_4) rfl labs_nil)))) 4000 (fun x => by kernel_rfl) (sd_r13_Loads_4 D_r13_Loads_4)
noncomputable def tt_r13_Loads_3 (x : X_r13_Loads_3) : TT Tryz.prog R_r13_Loads :=
 (.jump S_r13_Loads_4 D_r13_Loads_4 (X_r13_Loads_4.mk x.r_2 x.s_3 0))
theorem sd_r13_Loads_3 (x : X_r13_Loads_3) : (tt_r13_Loads_3 x).Sides :=
  TT.s_jump

noncomputable def D_r13_Loads_3 : Dyn X_r13_Loads_3 R_r13_Loads := .of tt_r13_Loads_3
theorem ok_r13_Loads_3 : LabOK J_r13_Loads S_r13_Loads_3 D_r13_Loads_3 :=
  lab_ok mixed_ok (labs_cons2 ok_r13_Loads_9 rfl (labs_cons2 ok_r13_Loads_8 rfl (labs_cons2 ok_r13_Loads_4 rfl labs_nil))) 4000 (fun x => by kernel_rfl) sd_r13_Loads_3
noncomputable def tt_r13_Loads (x : X_r13_Loads) : TT Tryz.prog R_r13_Loads :=
 (.ite (!(ieq ((x.snd.Heads.n : Nat) : Int) x.fst.Readers))
  (.ret false)
  (.ite (ile 4611686018427387904 x.snd.Tail)
   (.ret false)
   (.call con_r12_Right (x.fst.Cap, (x.fst.Readers, x.snd.Slots)) fun (y1 : R_r12_Right) =>
   (.ite (!y1)
    (.ret false)
    (.jump S_r13_Loads_3 D_r13_Loads_3 (X_r13_Loads_3.mk x.fst x.snd))
   )
   )
  )
 )
theorem sd_r13_Loads (x : X_r13_Loads) : (tt_r13_Loads x).Sides :=
  (TT.s_ite TT.s_ret (TT.s_ite TT.s_ret (TT.s_call fun _ => (TT.s_ite TT.s_ret TT.s_jump))))

noncomputable def D_r13_Loads : Dyn X_r13_Loads R_r13_Loads := .of tt_r13_Loads
noncomputable def con_r13_Loads : Con Tryz.prog :=
  mkCon 48 J_r13_Loads S_r13_Loads D_r13_Loads D_r13_Loads (fun _ _ h => h) 2 0 [.any, sh_TApi_RingState] (by kernel_rfl) (by kernel_rfl) (by kernel_rfl) (lab_ok mixed_ok (labs_cons2 ok_r13_Loads_9 rfl (labs_cons2 ok_r13_Loads_8 rfl (labs_cons2 ok_r13_Loads_4 rfl (labs_cons2 ok_r13_Loads_3 rfl labs_nil)))) 4000 (fun x => by kernel_rfl) sd_r13_Loads) rfl rfl (fun _ => rfl) (by kernel_rfl) rfl (fun _ => rfl) (fun x y _ => by kernel_rfl)

/-! rondeauref16.Code (r16_Code) -/
abbrev X_r16_Code : Type := (Sl TApi_Instr)
abbrev R_r16_Code : Type := Bool
noncomputable def J_r16_Code : Job Tryz.prog :=
  job Tryz.prog Tryz.f94 46 [] [] [] [] [.any] [] [con_r09_Right] R_r16_Code [] fun y => [V.bool y]
noncomputable def S_r16_Code : LabS :=
  lab0 Tryz.f94 1 0 X_r16_Code (fun x => [esl_TApi_Instr x]) fun l => (dsl_TApi_Instr (at_ l 0))
structure X_r16_Code_4 where
  l_0 : (Sl TApi_Instr)
  i_3 : Int
noncomputable def S_r16_Code_4 : LabS :=
  labAt Tryz.f94 4 [(0, hsl_TApi_Instr), (3, .any)] [] [] X_r16_Code_4 (fun x => [esl_TApi_Instr x.l_0, (V.int .i64) x.i_3]) fun l => ⟨dsl_TApi_Instr (at_ l 0), dI (at_ l 1)⟩
structure X_r16_Code_5 where
  l_0 : (Sl TApi_Instr)
  i_3 : Int
noncomputable def S_r16_Code_5 : LabS :=
  labAt Tryz.f94 5 [(0, hsl_TApi_Instr), (3, .any)] [] [] X_r16_Code_5 (fun x => [esl_TApi_Instr x.l_0, (V.int .i64) x.i_3]) fun l => ⟨dsl_TApi_Instr (at_ l 0), dI (at_ l 1)⟩
noncomputable def tt_r16_Code_5 (D_r16_Code_4 : Dyn X_r16_Code_4 R_r16_Code) (x : X_r16_Code_5) : TT Tryz.prog R_r16_Code :=
 (.jump S_r16_Code_4 D_r16_Code_4 (X_r16_Code_4.mk x.l_0 (IntKind.i64.wrap (x.i_3 + 1))))
theorem sd_r16_Code_5 (D_r16_Code_4 : Dyn X_r16_Code_4 R_r16_Code) (x : X_r16_Code_5) : (tt_r16_Code_5 D_r16_Code_4 x).Sides :=
  TT.s_jump

noncomputable def D_r16_Code_5 (D_r16_Code_4 : Dyn X_r16_Code_4 R_r16_Code) : Dyn X_r16_Code_5 R_r16_Code := .of (tt_r16_Code_5 D_r16_Code_4)
theorem ok_r16_Code_5 (D_r16_Code_4 : Dyn X_r16_Code_4 R_r16_Code) (h_4 : LabOK J_r16_Code S_r16_Code_4 D_r16_Code_4) : LabOK J_r16_Code S_r16_Code_5 (D_r16_Code_5 D_r16_Code_4) :=
  lab_ok mixed_ok (labs_cons2 h_4 rfl labs_nil) 4000 (fun x => by kernel_rfl) (sd_r16_Code_5 D_r16_Code_4)
noncomputable def tt_r16_Code_4 (D_r16_Code_4 : Dyn X_r16_Code_4 R_r16_Code) (x : X_r16_Code_4) : TT Tryz.prog R_r16_Code :=
 (.ite (ilt x.i_3 ((x.l_0.n : Nat) : Int))
  (.need (inb x.i_3 x.l_0.n) <|
  (.call con_r09_Right (x.l_0.get (Int.toNat x.i_3)) fun (y2 : R_r09_Right) =>
  (.ite (!y2)
   (.ret false)
   (.need (inb x.i_3 x.l_0.n) <|
   (.ite (ile 15 (x.l_0.get (Int.toNat x.i_3)).Op)
    (.need (inb x.i_3 x.l_0.n) <|
    (.ite (ile (x.l_0.get (Int.toNat x.i_3)).Op 17)
     (.need (inb x.i_3 x.l_0.n) <|
     (.ite (ilt (IntKind.u64.wrap ((x.l_0.n : Nat) : Int)) (x.l_0.get (Int.toNat x.i_3)).K)
      (.ret false)
      (.jump S_r16_Code_5 (D_r16_Code_5 D_r16_Code_4) (X_r16_Code_5.mk x.l_0 x.i_3))
     )
     )
     (.jump S_r16_Code_5 (D_r16_Code_5 D_r16_Code_4) (X_r16_Code_5.mk x.l_0 x.i_3))
    )
    )
    (.jump S_r16_Code_5 (D_r16_Code_5 D_r16_Code_4) (X_r16_Code_5.mk x.l_0 x.i_3))
   )
   )
  )
  )
  )
  (.ret true)
 )
theorem sd_r16_Code_4 (D_r16_Code_4 : Dyn X_r16_Code_4 R_r16_Code) (x : X_r16_Code_4) : (tt_r16_Code_4 D_r16_Code_4 x).Sides :=
  (TT.s_ite (TT.s_need (TT.s_call fun _ => (TT.s_ite TT.s_ret (TT.s_need (TT.s_ite (TT.s_need (TT.s_ite (TT.s_need (TT.s_ite TT.s_ret TT.s_jump)) TT.s_jump)) TT.s_jump))))) TT.s_ret)

noncomputable def D_r16_Code_4 : Dyn X_r16_Code_4 R_r16_Code := Dyn.loop tt_r16_Code_4
theorem ok_r16_Code_4 : LabOK J_r16_Code S_r16_Code_4 D_r16_Code_4 :=
  loop_ok fun D_r16_Code_4 h_4 => lab_ok mixed_ok (labs_cons2 h_4 rfl (labs_cons2 (ok_r16_Code_5 D_r16_Code_4 h_4) rfl labs_nil)) 4000 (fun x => by kernel_rfl) (sd_r16_Code_4 D_r16_Code_4)
noncomputable def tt_r16_Code (x : X_r16_Code) : TT Tryz.prog R_r16_Code :=
 (.ite (ilt 256 ((x.n : Nat) : Int))
  (.ret false)
  (.jump S_r16_Code_4 D_r16_Code_4 (X_r16_Code_4.mk x 0))
 )
theorem sd_r16_Code (x : X_r16_Code) : (tt_r16_Code x).Sides :=
  (TT.s_ite TT.s_ret TT.s_jump)

noncomputable def D_r16_Code : Dyn X_r16_Code R_r16_Code := .of tt_r16_Code
noncomputable def con_r16_Code : Con Tryz.prog :=
  mkCon 94 J_r16_Code S_r16_Code D_r16_Code D_r16_Code (fun _ _ h => h) 1 0 [hsl_TApi_Instr] (by kernel_rfl) (by kernel_rfl) (by kernel_rfl) (lab_ok mixed_ok (labs_cons2 ok_r16_Code_4 rfl labs_nil) 4000 (fun x => by kernel_rfl) sd_r16_Code) rfl rfl (fun _ => rfl) (by kernel_rfl) rfl (fun _ => rfl) (fun x y _ => by kernel_rfl)

/-! rondeauref16.Right (r16_Right) -/
abbrev X_r16_Right : Type := (Sl TApi_Instr) × TApi_ThreadState
abbrev R_r16_Right : Type := Bool
noncomputable def J_r16_Right : Job Tryz.prog :=
  job Tryz.prog Tryz.f49 89 [(3, 3), (74, 1)] [] [] [] [.any] [] [con_r16_Code] R_r16_Right [] fun y => [V.bool y]
noncomputable def S_r16_Right : LabS :=
  lab0 Tryz.f49 2 0 X_r16_Right (fun x => [esl_TApi_Instr x.1, e_TApi_ThreadState x.2]) fun l => (dsl_TApi_Instr (at_ l 0), d_TApi_ThreadState (at_ l 1))
structure X_r16_Right_3 where
  l_0 : (Sl TApi_Instr)
  s_3 : TApi_ThreadState
noncomputable def S_r16_Right_3 : LabS :=
  labAt Tryz.f49 3 [(0, hsl_TApi_Instr), (3, .any)] [] [] X_r16_Right_3 (fun x => [esl_TApi_Instr x.l_0, (eVp e_TApi_ThreadState) x.s_3]) fun l => ⟨dsl_TApi_Instr (at_ l 0), (dVp d_TApi_ThreadState) (at_ l 1)⟩
noncomputable def tt_r16_Right_3 (x : X_r16_Right_3) : TT Tryz.prog R_r16_Right :=
 (.ite (ieq x.s_3.Phase 0)
  (.ite (ieq x.s_3.Ring 0)
   (.ret (ieq x.s_3.Ticket 0))
   (.ret false)
  )
  (.ite (ieq x.s_3.Status 0)
   (.ite (ilt x.s_3.At ((x.l_0.n : Nat) : Int))
    (.need (inb x.s_3.At x.l_0.n) <|
    (.ite (ieq (x.l_0.get (Int.toNat x.s_3.At)).Op (IntKind.i64.wrap ((17 : Int) + x.s_3.Phase)))
     (.need (inb x.s_3.At x.l_0.n) <|
     (.ite (ieq (x.l_0.get (Int.toNat x.s_3.At)).C x.s_3.Ring)
      (.ret (ilt x.s_3.Ticket 4611686018427387904))
      (.ret false)
     )
     )
     (.ret false)
    )
    )
    (.ret false)
   )
   (.ret false)
  )
 )
theorem sd_r16_Right_3 (x : X_r16_Right_3) : (tt_r16_Right_3 x).Sides :=
  (TT.s_ite (TT.s_ite TT.s_ret TT.s_ret) (TT.s_ite (TT.s_ite (TT.s_need (TT.s_ite (TT.s_need (TT.s_ite TT.s_ret TT.s_ret)) TT.s_ret)) TT.s_ret) TT.s_ret))

noncomputable def D_r16_Right_3 : Dyn X_r16_Right_3 R_r16_Right := .of tt_r16_Right_3
theorem ok_r16_Right_3 : LabOK J_r16_Right S_r16_Right_3 D_r16_Right_3 :=
  lab_ok mixed_ok labs_nil 4000 (fun x => by kernel_rfl) sd_r16_Right_3
noncomputable def tt_r16_Right (x : X_r16_Right) : TT Tryz.prog R_r16_Right :=
 (.call con_r16_Code x.fst fun (y1 : R_r16_Code) =>
 (.ite (!y1)
  (.ret false)
  (.ite (ilt x.snd.At 0)
   (.ret false)
   (.ite (ilt ((x.fst.n : Nat) : Int) x.snd.At)
    (.ret false)
    (.ite (ilt x.snd.Status 0)
     (.ret false)
     (.ite (ilt 2 x.snd.Status)
      (.ret false)
      (.ite (ilt x.snd.Phase 0)
       (.ret false)
       (.ite (ilt 2 x.snd.Phase)
        (.ret false)
        (.jump S_r16_Right_3 D_r16_Right_3 (X_r16_Right_3.mk x.fst x.snd))
       )
      )
     )
    )
   )
  )
 )
 )
theorem sd_r16_Right (x : X_r16_Right) : (tt_r16_Right x).Sides :=
  (TT.s_call fun _ => (TT.s_ite TT.s_ret (TT.s_ite TT.s_ret (TT.s_ite TT.s_ret (TT.s_ite TT.s_ret (TT.s_ite TT.s_ret (TT.s_ite TT.s_ret (TT.s_ite TT.s_ret TT.s_jump))))))))

noncomputable def D_r16_Right : Dyn X_r16_Right R_r16_Right := .of tt_r16_Right
noncomputable def con_r16_Right : Con Tryz.prog :=
  mkCon 49 J_r16_Right S_r16_Right D_r16_Right D_r16_Right (fun _ _ h => h) 2 0 [hsl_TApi_Instr, sh_TApi_ThreadState] (by kernel_rfl) (by kernel_rfl) (by kernel_rfl) (lab_ok mixed_ok (labs_cons2 ok_r16_Right_3 rfl labs_nil) 4000 (fun x => by kernel_rfl) sd_r16_Right) rfl rfl (fun _ => rfl) (by kernel_rfl) rfl (fun _ => rfl) (fun x y _ => by kernel_rfl)

/-! rondeauref17.Loads (r17_Loads) -/
abbrev X_r17_Loads : Type := TApi_Program × TApi_State
abbrev R_r17_Loads : Type := Bool
noncomputable def J_r17_Loads : Job Tryz.prog :=
  job Tryz.prog Tryz.f15 121 [(2, 3), (3, 3)] [] [] [] [.any] [] [con_r13_Loads, con_r16_Right] R_r17_Loads [] fun y => [V.bool y]
noncomputable def S_r17_Loads : LabS :=
  lab0 Tryz.f15 2 0 X_r17_Loads (fun x => [e_TApi_Program x.1, e_TApi_State x.2]) fun l => (d_TApi_Program (at_ l 0), d_TApi_State (at_ l 1))
structure X_r17_Loads_3 where
  p_2 : TApi_Program
  s_3 : TApi_State
noncomputable def S_r17_Loads_3 : LabS :=
  labAt Tryz.f15 3 [(2, .any), (3, .any)] [] [] X_r17_Loads_3 (fun x => [(eVp e_TApi_Program) x.p_2, (eVp e_TApi_State) x.s_3]) fun l => ⟨(dVp d_TApi_Program) (at_ l 0), (dVp d_TApi_State) (at_ l 1)⟩
structure X_r17_Loads_4 where
  p_2 : TApi_Program
  s_3 : TApi_State
  i_5 : Int
noncomputable def S_r17_Loads_4 : LabS :=
  labAt Tryz.f15 4 [(2, .any), (3, .any), (5, .any)] [] [] X_r17_Loads_4 (fun x => [(eVp e_TApi_Program) x.p_2, (eVp e_TApi_State) x.s_3, (V.int .i64) x.i_5]) fun l => ⟨(dVp d_TApi_Program) (at_ l 0), (dVp d_TApi_State) (at_ l 1), dI (at_ l 2)⟩
structure X_r17_Loads_5 where
  p_2 : TApi_Program
  s_3 : TApi_State
  i_5 : Int
noncomputable def S_r17_Loads_5 : LabS :=
  labAt Tryz.f15 5 [(2, .any), (3, .any), (5, .any)] [] [] X_r17_Loads_5 (fun x => [(eVp e_TApi_Program) x.p_2, (eVp e_TApi_State) x.s_3, (V.int .i64) x.i_5]) fun l => ⟨(dVp d_TApi_Program) (at_ l 0), (dVp d_TApi_State) (at_ l 1), dI (at_ l 2)⟩
structure X_r17_Loads_8 where
  p_2 : TApi_Program
  s_3 : TApi_State
noncomputable def S_r17_Loads_8 : LabS :=
  labAt Tryz.f15 8 [(2, .any), (3, .any)] [] [] X_r17_Loads_8 (fun x => [(eVp e_TApi_Program) x.p_2, (eVp e_TApi_State) x.s_3]) fun l => ⟨(dVp d_TApi_Program) (at_ l 0), (dVp d_TApi_State) (at_ l 1)⟩
structure X_r17_Loads_9 where
  p_2 : TApi_Program
  s_3 : TApi_State
  i_6 : Int
noncomputable def S_r17_Loads_9 : LabS :=
  labAt Tryz.f15 9 [(2, .any), (3, .any), (6, .any)] [] [] X_r17_Loads_9 (fun x => [(eVp e_TApi_Program) x.p_2, (eVp e_TApi_State) x.s_3, (V.int .i64) x.i_6]) fun l => ⟨(dVp d_TApi_Program) (at_ l 0), (dVp d_TApi_State) (at_ l 1), dI (at_ l 2)⟩
structure X_r17_Loads_10 where
  p_2 : TApi_Program
  s_3 : TApi_State
  i_6 : Int
noncomputable def S_r17_Loads_10 : LabS :=
  labAt Tryz.f15 10 [(2, .any), (3, .any), (6, .any)] [] [] X_r17_Loads_10 (fun x => [(eVp e_TApi_Program) x.p_2, (eVp e_TApi_State) x.s_3, (V.int .i64) x.i_6]) fun l => ⟨(dVp d_TApi_Program) (at_ l 0), (dVp d_TApi_State) (at_ l 1), dI (at_ l 2)⟩
noncomputable def tt_r17_Loads_10 (D_r17_Loads_9 : Dyn X_r17_Loads_9 R_r17_Loads) (x : X_r17_Loads_10) : TT Tryz.prog R_r17_Loads :=
 (.jump S_r17_Loads_9 D_r17_Loads_9 (X_r17_Loads_9.mk x.p_2 x.s_3 (IntKind.i64.wrap (x.i_6 + 1))))
theorem sd_r17_Loads_10 (D_r17_Loads_9 : Dyn X_r17_Loads_9 R_r17_Loads) (x : X_r17_Loads_10) : (tt_r17_Loads_10 D_r17_Loads_9 x).Sides :=
  TT.s_jump

noncomputable def D_r17_Loads_10 (D_r17_Loads_9 : Dyn X_r17_Loads_9 R_r17_Loads) : Dyn X_r17_Loads_10 R_r17_Loads := .of (tt_r17_Loads_10 D_r17_Loads_9)
theorem ok_r17_Loads_10 (D_r17_Loads_9 : Dyn X_r17_Loads_9 R_r17_Loads) (h_9 : LabOK J_r17_Loads S_r17_Loads_9 D_r17_Loads_9) : LabOK J_r17_Loads S_r17_Loads_10 (D_r17_Loads_10 D_r17_Loads_9) :=
  lab_ok mixed_ok (labs_cons2 h_9 rfl labs_nil) 4000 (fun x => by kernel_rfl) (sd_r17_Loads_10 D_r17_Loads_9)
noncomputable def tt_r17_Loads_9 (D_r17_Loads_9 : Dyn X_r17_Loads_9 R_r17_Loads) (x : X_r17_Loads_9) : TT Tryz.prog R_r17_Loads :=
 (.ite (ilt x.i_6 ((x.s_3.Threads.n : Nat) : Int))
  (.need (inb x.i_6 x.s_3.Threads.n) <|
  (.need (inb x.i_6 x.p_2.Threads.n) <|
  (.call con_r16_Right ((x.p_2.Threads.get (Int.toNat x.i_6)), (x.s_3.Threads.get (Int.toNat x.i_6))) fun (y2 : R_r16_Right) =>
  (.ite (!y2)
   (.ret false)
   (.ite (ieq (x.s_3.Threads.get (Int.toNat x.i_6)).Phase 1)
    (.need (inb (x.s_3.Threads.get (Int.toNat x.i_6)).Ring x.s_3.Rings.n) <|
    (.ite (ile (x.s_3.Rings.get (Int.toNat (x.s_3.Threads.get (Int.toNat x.i_6)).Ring)).Tail (x.s_3.Threads.get (Int.toNat x.i_6)).Ticket)
     (.ret false)
     (.ite (ieq (x.s_3.Threads.get (Int.toNat x.i_6)).Phase 2)
      (.need (inb (x.s_3.Threads.get (Int.toNat x.i_6)).Ring x.s_3.Rings.n) <|
      (.need (inb x.i_6 x.p_2.Threads.n) <|
      (.need (inb (x.s_3.Threads.get (Int.toNat x.i_6)).At (x.p_2.Threads.get (Int.toNat x.i_6)).n) <|
      (.need (inb ((x.p_2.Threads.get (Int.toNat x.i_6)).get (Int.toNat (x.s_3.Threads.get (Int.toNat x.i_6)).At)).K (x.s_3.Rings.get (Int.toNat (x.s_3.Threads.get (Int.toNat x.i_6)).Ring)).Heads.n) <|
      (.ite (ile ((x.s_3.Rings.get (Int.toNat (x.s_3.Threads.get (Int.toNat x.i_6)).Ring)).Heads.get (Int.toNat ((x.p_2.Threads.get (Int.toNat x.i_6)).get (Int.toNat (x.s_3.Threads.get (Int.toNat x.i_6)).At)).K)) (x.s_3.Threads.get (Int.toNat x.i_6)).Ticket)
       (.ret false)
       (.jump S_r17_Loads_10 (D_r17_Loads_10 D_r17_Loads_9) (X_r17_Loads_10.mk x.p_2 x.s_3 x.i_6))
      )
      )
      )
      )
      )
      (.jump S_r17_Loads_10 (D_r17_Loads_10 D_r17_Loads_9) (X_r17_Loads_10.mk x.p_2 x.s_3 x.i_6))
     )
    )
    )
    (.ite (ieq (x.s_3.Threads.get (Int.toNat x.i_6)).Phase 2)
     (.need (inb (x.s_3.Threads.get (Int.toNat x.i_6)).Ring x.s_3.Rings.n) <|
     (.need (inb x.i_6 x.p_2.Threads.n) <|
     (.need (inb (x.s_3.Threads.get (Int.toNat x.i_6)).At (x.p_2.Threads.get (Int.toNat x.i_6)).n) <|
     (.need (inb ((x.p_2.Threads.get (Int.toNat x.i_6)).get (Int.toNat (x.s_3.Threads.get (Int.toNat x.i_6)).At)).K (x.s_3.Rings.get (Int.toNat (x.s_3.Threads.get (Int.toNat x.i_6)).Ring)).Heads.n) <|
     (.ite (ile ((x.s_3.Rings.get (Int.toNat (x.s_3.Threads.get (Int.toNat x.i_6)).Ring)).Heads.get (Int.toNat ((x.p_2.Threads.get (Int.toNat x.i_6)).get (Int.toNat (x.s_3.Threads.get (Int.toNat x.i_6)).At)).K)) (x.s_3.Threads.get (Int.toNat x.i_6)).Ticket)
      (.ret false)
      (.jump S_r17_Loads_10 (D_r17_Loads_10 D_r17_Loads_9) (X_r17_Loads_10.mk x.p_2 x.s_3 x.i_6))
     )
     )
     )
     )
     )
     (.jump S_r17_Loads_10 (D_r17_Loads_10 D_r17_Loads_9) (X_r17_Loads_10.mk x.p_2 x.s_3 x.i_6))
    )
   )
  )
  )
  )
  )
  (.ret true)
 )
theorem sd_r17_Loads_9 (D_r17_Loads_9 : Dyn X_r17_Loads_9 R_r17_Loads) (x : X_r17_Loads_9) : (tt_r17_Loads_9 D_r17_Loads_9 x).Sides :=
  (TT.s_ite (TT.s_need (TT.s_need (TT.s_call fun _ => (TT.s_ite TT.s_ret (TT.s_ite (TT.s_need (TT.s_ite TT.s_ret (TT.s_ite (TT.s_need (TT.s_need (TT.s_need (TT.s_need (TT.s_ite TT.s_ret TT.s_jump))))) TT.s_jump))) (TT.s_ite (TT.s_need (TT.s_need (TT.s_need (TT.s_need (TT.s_ite TT.s_ret TT.s_jump))))) TT.s_jump)))))) TT.s_ret)

noncomputable def D_r17_Loads_9 : Dyn X_r17_Loads_9 R_r17_Loads := Dyn.loop tt_r17_Loads_9
theorem ok_r17_Loads_9 : LabOK J_r17_Loads S_r17_Loads_9 D_r17_Loads_9 :=
  loop_ok fun D_r17_Loads_9 h_9 => lab_ok mixed_ok (labs_cons2 h_9 rfl (labs_cons2 (ok_r17_Loads_10 D_r17_Loads_9 h_9) rfl labs_nil)) 4000 (fun x => by kernel_rfl) (sd_r17_Loads_9 D_r17_Loads_9)
noncomputable def tt_r17_Loads_8 (x : X_r17_Loads_8) : TT Tryz.prog R_r17_Loads :=
 (.jump S_r17_Loads_9 D_r17_Loads_9 (X_r17_Loads_9.mk x.p_2 x.s_3 0))
theorem sd_r17_Loads_8 (x : X_r17_Loads_8) : (tt_r17_Loads_8 x).Sides :=
  TT.s_jump

noncomputable def D_r17_Loads_8 : Dyn X_r17_Loads_8 R_r17_Loads := .of tt_r17_Loads_8
theorem ok_r17_Loads_8 : LabOK J_r17_Loads S_r17_Loads_8 D_r17_Loads_8 :=
  lab_ok mixed_ok (labs_cons2 ok_r17_Loads_9 rfl labs_nil) 4000 (fun x => by kernel_rfl) sd_r17_Loads_8
noncomputable def tt_r17_Loads_5 (D_r17_Loads_4 : Dyn X_r17_Loads_4 R_r17_Loads) (x : X_r17_Loads_5) : TT Tryz.prog R_r17_Loads :=
 (.jump S_r17_Loads_4 D_r17_Loads_4 (X_r17_Loads_4.mk x.p_2 x.s_3 (IntKind.i64.wrap (x.i_5 + 1))))
theorem sd_r17_Loads_5 (D_r17_Loads_4 : Dyn X_r17_Loads_4 R_r17_Loads) (x : X_r17_Loads_5) : (tt_r17_Loads_5 D_r17_Loads_4 x).Sides :=
  TT.s_jump

noncomputable def D_r17_Loads_5 (D_r17_Loads_4 : Dyn X_r17_Loads_4 R_r17_Loads) : Dyn X_r17_Loads_5 R_r17_Loads := .of (tt_r17_Loads_5 D_r17_Loads_4)
theorem ok_r17_Loads_5 (D_r17_Loads_4 : Dyn X_r17_Loads_4 R_r17_Loads) (h_4 : LabOK J_r17_Loads S_r17_Loads_4 D_r17_Loads_4) : LabOK J_r17_Loads S_r17_Loads_5 (D_r17_Loads_5 D_r17_Loads_4) :=
  lab_ok mixed_ok (labs_cons2 h_4 rfl (labs_cons2 ok_r17_Loads_9 rfl (labs_cons2 ok_r17_Loads_8 rfl labs_nil))) 4000 (fun x => by kernel_rfl) (sd_r17_Loads_5 D_r17_Loads_4)
noncomputable def tt_r17_Loads_4 (D_r17_Loads_4 : Dyn X_r17_Loads_4 R_r17_Loads) (x : X_r17_Loads_4) : TT Tryz.prog R_r17_Loads :=
 (.ite (ilt x.i_5 ((x.s_3.Rings.n : Nat) : Int))
  (.need (inb x.i_5 x.s_3.Rings.n) <|
  (.ite (ile 2305843009213693952 (x.s_3.Rings.get (Int.toNat x.i_5)).Tail)
   (.ret false)
   (.need (inb x.i_5 x.p_2.Rings.n) <|
   (.need (inb x.i_5 x.s_3.Rings.n) <|
   (.call con_r13_Loads ((x.p_2.Rings.get (Int.toNat x.i_5)), (x.s_3.Rings.get (Int.toNat x.i_5))) fun (y2 : R_r13_Loads) =>
   (.ite (!y2)
    (.ret false)
    (.jump S_r17_Loads_5 (D_r17_Loads_5 D_r17_Loads_4) (X_r17_Loads_5.mk x.p_2 x.s_3 x.i_5))
   )
   )
   )
   )
  )
  )
  (.jump S_r17_Loads_8 D_r17_Loads_8 (X_r17_Loads_8.mk x.p_2 x.s_3))
 )
theorem sd_r17_Loads_4 (D_r17_Loads_4 : Dyn X_r17_Loads_4 R_r17_Loads) (x : X_r17_Loads_4) : (tt_r17_Loads_4 D_r17_Loads_4 x).Sides :=
  (TT.s_ite (TT.s_need (TT.s_ite TT.s_ret (TT.s_need (TT.s_need (TT.s_call fun _ => (TT.s_ite TT.s_ret TT.s_jump)))))) TT.s_jump)

noncomputable def D_r17_Loads_4 : Dyn X_r17_Loads_4 R_r17_Loads := Dyn.loop tt_r17_Loads_4
theorem ok_r17_Loads_4 : LabOK J_r17_Loads S_r17_Loads_4 D_r17_Loads_4 :=
  loop_ok fun D_r17_Loads_4 h_4 => lab_ok mixed_ok (labs_cons2 h_4 rfl (labs_cons2 ok_r17_Loads_9 rfl (labs_cons2 ok_r17_Loads_8 rfl (labs_cons2 (ok_r17_Loads_5 D_r17_Loads_4 h_4) rfl labs_nil)))) 4000 (fun x => by kernel_rfl) (sd_r17_Loads_4 D_r17_Loads_4)
noncomputable def tt_r17_Loads_3 (x : X_r17_Loads_3) : TT Tryz.prog R_r17_Loads :=
 (.jump S_r17_Loads_4 D_r17_Loads_4 (X_r17_Loads_4.mk x.p_2 x.s_3 0))
theorem sd_r17_Loads_3 (x : X_r17_Loads_3) : (tt_r17_Loads_3 x).Sides :=
  TT.s_jump

noncomputable def D_r17_Loads_3 : Dyn X_r17_Loads_3 R_r17_Loads := .of tt_r17_Loads_3
theorem ok_r17_Loads_3 : LabOK J_r17_Loads S_r17_Loads_3 D_r17_Loads_3 :=
  lab_ok mixed_ok (labs_cons2 ok_r17_Loads_9 rfl (labs_cons2 ok_r17_Loads_8 rfl (labs_cons2 ok_r17_Loads_4 rfl labs_nil))) 4000 (fun x => by kernel_rfl) sd_r17_Loads_3
noncomputable def tt_r17_Loads (x : X_r17_Loads) : TT Tryz.prog R_r17_Loads :=
 (.ite (!(ieq ((x.snd.Threads.n : Nat) : Int) ((x.fst.Threads.n : Nat) : Int)))
  (.ret false)
  (.ite (!(ieq ((x.snd.Rings.n : Nat) : Int) ((x.fst.Rings.n : Nat) : Int)))
   (.ret false)
   (.ite (ile 9223372036854775808 x.snd.Now)
    (.ret false)
    (.jump S_r17_Loads_3 D_r17_Loads_3 (X_r17_Loads_3.mk x.fst x.snd))
   )
  )
 )
theorem sd_r17_Loads (x : X_r17_Loads) : (tt_r17_Loads x).Sides :=
  (TT.s_ite TT.s_ret (TT.s_ite TT.s_ret (TT.s_ite TT.s_ret TT.s_jump)))

noncomputable def D_r17_Loads : Dyn X_r17_Loads R_r17_Loads := .of tt_r17_Loads
noncomputable def con_r17_Loads : Con Tryz.prog :=
  mkCon 15 J_r17_Loads S_r17_Loads D_r17_Loads D_r17_Loads (fun _ _ h => h) 2 0 [sh_TApi_Program, sh_TApi_State] (by kernel_rfl) (by kernel_rfl) (by kernel_rfl) (lab_ok mixed_ok (labs_cons2 ok_r17_Loads_9 rfl (labs_cons2 ok_r17_Loads_8 rfl (labs_cons2 ok_r17_Loads_4 rfl (labs_cons2 ok_r17_Loads_3 rfl labs_nil)))) 4000 (fun x => by kernel_rfl) sd_r17_Loads) rfl rfl (fun _ => rfl) (by kernel_rfl) rfl (fun _ => rfl) (fun x y _ => by kernel_rfl)

/-! slices.Clone[[]api.Slot,api.Slot] (slices_Clone_api_Slot_o0) -/
abbrev X_slices_Clone_api_Slot_o0 : Type := (Ar TApi_Slot)
abbrev R_slices_Clone_api_Slot_o0 : Type := (Sl TApi_Slot)
abbrev RR_slices_Clone_api_Slot_o0 : Type := (Sl TApi_Slot) × (Ar TApi_Slot)
abbrev p_slices_Clone_api_Slot_o0 (y : RR_slices_Clone_api_Slot_o0) : (Ar TApi_Slot) := y.2
abbrev w_slices_Clone_api_Slot_o0 (x : X_slices_Clone_api_Slot_o0) : (Ar TApi_Slot) := x
noncomputable def J_slices_Clone_api_Slot_o0 : Job Tryz.prog :=
  job Tryz.prog Tryz.f145 8 [(6, 1)] [] [] [.shut 2] [hsl_TApi_Slot] [.any] [] RR_slices_Clone_api_Slot_o0 [] fun y => [esl_TApi_Slot y.1, (eAr 3 e_TApi_Slot) y.2]
noncomputable def S_slices_Clone_api_Slot_o0 : LabS :=
  lab0 Tryz.f145 1 1 X_slices_Clone_api_Slot_o0 (fun x => [(V.own (.par 0) [] 3 x.n 0 x.n), (eAr 3 e_TApi_Slot) x]) fun l => ((dAr d_TApi_Slot) (at_ l 1))
noncomputable def tt_slices_Clone_api_Slot_o0 (x : X_slices_Clone_api_Slot_o0) : TT Tryz.prog RR_slices_Clone_api_Slot_o0 :=
 (.need (Nat.blt 0 x.n) <|
 (.need ((true && (Nat.beq x.n x.n)) && (room ((0 : Nat) + x.n) 24)) <|
 (.side (∀ i1 : Nat, ((i1 < x.n) → ((true && (true && (true && true))) = true))) <|
 (.ret ((Sl.mk (cond (Nat.beq x.n 0) false false) ((0 : Nat) + x.n) (fun i1 => (TApi_Slot.mk (cond (Nat.blt i1 0) (0 : Int) (x.get ((0 : Nat) + (i1 - 0))).Stamp) (cond (Nat.blt i1 0) (0 : Int) (x.get ((0 : Nat) + (i1 - 0))).Value) (cond (Nat.blt i1 0) (0 : Int) (x.get ((0 : Nat) + (i1 - 0))).Left)))), x))
 )
 )
 )
theorem sd_slices_Clone_api_Slot_o0 (x : X_slices_Clone_api_Slot_o0) : (tt_slices_Clone_api_Slot_o0 x).Sides :=
  (TT.s_need (TT.s_need (TT.s_side (fun _ _ => rfl) TT.s_ret)))
theorem roT_slices_Clone_api_Slot_o0 (x : X_slices_Clone_api_Slot_o0) : TT.Ro p_slices_Clone_api_Slot_o0 (w_slices_Clone_api_Slot_o0 x) (tt_slices_Clone_api_Slot_o0 x) :=
  (TT.ro_need (TT.ro_need (TT.ro_side (TT.ro_ret rfl))))

noncomputable def D_slices_Clone_api_Slot_o0 : Dyn X_slices_Clone_api_Slot_o0 R_slices_Clone_api_Slot_o0 := .ro (.of tt_slices_Clone_api_Slot_o0) (fun y => (y.1)) (fun y x => (y, x)) fun x y h => congrArg (fun o => (y.1, o)) (roT_slices_Clone_api_Slot_o0 x y h)
noncomputable def con_slices_Clone_api_Slot_o0 : Con Tryz.prog :=
  mkConP 145 J_slices_Clone_api_Slot_o0 S_slices_Clone_api_Slot_o0 (.of tt_slices_Clone_api_Slot_o0) D_slices_Clone_api_Slot_o0 (fun y x => (y, x)) (fun _ _ h => h) (fun y => esl_TApi_Slot y) 1 1 [.any] (by kernel_rfl) (by kernel_rfl) (by kernel_rfl) (lab_ok mixed_ok labs_nil 4000 (fun x => by kernel_rfl) sd_slices_Clone_api_Slot_o0) rfl rfl (fun _ => rfl) (by kernel_rfl) rfl (fun _ _ => rfl) (fun _ => rfl) (fun x => ⟨(fun _ _ => (nu_e_TApi_Slot) _ : ∀ y, ((eAr 3 e_TApi_Slot) y).NoU) (x), trivial⟩)

/-! (*slots.Slots).All (slots_Slots_All) -/
abbrev X_slots_Slots_All : Type := TSlots_Slots
abbrev R_slots_Slots_All : Type := (Sl TApi_Slot)
abbrev RR_slots_Slots_All : Type := (Sl TApi_Slot) × TSlots_Slots
abbrev p_slots_Slots_All (y : RR_slots_Slots_All) : TSlots_Slots := y.2
abbrev w_slots_Slots_All (x : X_slots_Slots_All) : TSlots_Slots := x
noncomputable def J_slots_Slots_All : Job Tryz.prog :=
  job Tryz.prog Tryz.f96 10 [] [] [] [.back (.loc 8 0), .shut 2] [hsl_TApi_Slot] [sh_TSlots_Slots] [con_slices_Clone_api_Slot_o0] RR_slots_Slots_All [] fun y => [esl_TApi_Slot y.1, e_TSlots_Slots y.2]
noncomputable def S_slots_Slots_All : LabS :=
  lab0 Tryz.f96 1 1 X_slots_Slots_All (fun x => [(V.ptr (.par 0) []), e_TSlots_Slots x]) fun l => (d_TSlots_Slots (at_ l 1))
noncomputable def tt_slots_Slots_All (x : X_slots_Slots_All) : TT Tryz.prog RR_slots_Slots_All :=
 (.call con_slices_Clone_api_Slot_o0 (Ar.mk x.l.n x.l.get) fun (y1 : R_slices_Clone_api_Slot_o0) =>
 (.need ((true && true) && (Nat.beq x.l.n x.l.n)) <|
 (.ret (y1, x))
 )
 )
theorem sd_slots_Slots_All (x : X_slots_Slots_All) : (tt_slots_Slots_All x).Sides :=
  (TT.s_call fun _ => (TT.s_need TT.s_ret))
theorem roT_slots_Slots_All (x : X_slots_Slots_All) : TT.Ro p_slots_Slots_All (w_slots_Slots_All x) (tt_slots_Slots_All x) :=
  (TT.ro_call fun _ => (TT.ro_need (TT.ro_ret rfl)))

noncomputable def D_slots_Slots_All : Dyn X_slots_Slots_All R_slots_Slots_All := .ro (.of tt_slots_Slots_All) (fun y => (y.1)) (fun y x => (y, x)) fun x y h => congrArg (fun o => (y.1, o)) (roT_slots_Slots_All x y h)
noncomputable def con_slots_Slots_All : Con Tryz.prog :=
  mkConP 96 J_slots_Slots_All S_slots_Slots_All (.of tt_slots_Slots_All) D_slots_Slots_All (fun y x => (y, x)) (fun _ _ h => h) (fun y => esl_TApi_Slot y) 1 1 [.any] (by kernel_rfl) (by kernel_rfl) (by kernel_rfl) (lab_ok mixed_ok labs_nil 4000 (fun x => by kernel_rfl) sd_slots_Slots_All) rfl rfl (fun _ => rfl) (by kernel_rfl) rfl (fun _ _ => rfl) (fun _ => rfl) (fun x => ⟨(nu_e_TSlots_Slots : ∀ y, (e_TSlots_Slots y).NoU) (x), trivial⟩)

/-! slices.Clone[[]uint64,uint64] (slices_Clone_uint64_o0) -/
abbrev X_slices_Clone_uint64_o0 : Type := (Ar Int)
abbrev R_slices_Clone_uint64_o0 : Type := (Sl Int)
abbrev RR_slices_Clone_uint64_o0 : Type := (Sl Int) × (Ar Int)
abbrev p_slices_Clone_uint64_o0 (y : RR_slices_Clone_uint64_o0) : (Ar Int) := y.2
abbrev w_slices_Clone_uint64_o0 (x : X_slices_Clone_uint64_o0) : (Ar Int) := x
noncomputable def J_slices_Clone_uint64_o0 : Job Tryz.prog :=
  job Tryz.prog Tryz.f53 8 [(6, 1)] [] [] [.shut 2] [hsl_u64] [.any] [] RR_slices_Clone_uint64_o0 [] fun y => [esl_u64 y.1, (eAr 1 (V.int .u64)) y.2]
noncomputable def S_slices_Clone_uint64_o0 : LabS :=
  lab0 Tryz.f53 1 1 X_slices_Clone_uint64_o0 (fun x => [(V.own (.par 0) [] 1 x.n 0 x.n), (eAr 1 (V.int .u64)) x]) fun l => ((dAr dI) (at_ l 1))
noncomputable def tt_slices_Clone_uint64_o0 (x : X_slices_Clone_uint64_o0) : TT Tryz.prog RR_slices_Clone_uint64_o0 :=
 (.need (Nat.blt 0 x.n) <|
 (.need ((true && (Nat.beq x.n x.n)) && (room ((0 : Nat) + x.n) 8)) <|
 (.side (∀ i1 : Nat, ((i1 < x.n) → (true = true))) <|
 (.ret ((Sl.mk (cond (Nat.beq x.n 0) false false) ((0 : Nat) + x.n) (fun i1 => (cond (Nat.blt i1 0) (0 : Int) (x.get ((0 : Nat) + (i1 - 0)))))), x))
 )
 )
 )
theorem sd_slices_Clone_uint64_o0 (x : X_slices_Clone_uint64_o0) : (tt_slices_Clone_uint64_o0 x).Sides :=
  (TT.s_need (TT.s_need (TT.s_side (fun _ _ => rfl) TT.s_ret)))
theorem roT_slices_Clone_uint64_o0 (x : X_slices_Clone_uint64_o0) : TT.Ro p_slices_Clone_uint64_o0 (w_slices_Clone_uint64_o0 x) (tt_slices_Clone_uint64_o0 x) :=
  (TT.ro_need (TT.ro_need (TT.ro_side (TT.ro_ret rfl))))

noncomputable def D_slices_Clone_uint64_o0 : Dyn X_slices_Clone_uint64_o0 R_slices_Clone_uint64_o0 := .ro (.of tt_slices_Clone_uint64_o0) (fun y => (y.1)) (fun y x => (y, x)) fun x y h => congrArg (fun o => (y.1, o)) (roT_slices_Clone_uint64_o0 x y h)
noncomputable def con_slices_Clone_uint64_o0 : Con Tryz.prog :=
  mkConP 53 J_slices_Clone_uint64_o0 S_slices_Clone_uint64_o0 (.of tt_slices_Clone_uint64_o0) D_slices_Clone_uint64_o0 (fun y x => (y, x)) (fun _ _ h => h) (fun y => esl_u64 y) 1 1 [.any] (by kernel_rfl) (by kernel_rfl) (by kernel_rfl) (lab_ok mixed_ok labs_nil 4000 (fun x => by kernel_rfl) sd_slices_Clone_uint64_o0) rfl rfl (fun _ => rfl) (by kernel_rfl) rfl (fun _ _ => rfl) (fun _ => rfl) (fun x => ⟨(fun _ _ => trivial : ∀ y, ((eAr 1 (V.int .u64)) y).NoU) (x), trivial⟩)

/-! (*ring.Ring).State (ring_Ring_State) -/
abbrev X_ring_Ring_State : Type := TRing_Ring
abbrev R_ring_Ring_State : Type := TApi_RingState
abbrev RR_ring_Ring_State : Type := TApi_RingState × TRing_Ring
abbrev p_ring_Ring_State (y : RR_ring_Ring_State) : TRing_Ring := y.2
abbrev w_ring_Ring_State (x : X_ring_Ring_State) : TRing_Ring := x
noncomputable def J_ring_Ring_State : Job Tryz.prog :=
  job Tryz.prog Tryz.f54 27 [] [] [(3, [.opn (.par 0) [.fld 0 0, .fld 1 1] 15, .opn (.par 0) [.fld 1 2] 24])] [.back (.loc 24 0), .back (.loc 15 0)] [sh_TApi_RingState] [sh_TRing_Ring] [con_slices_Clone_uint64_o0, con_slots_Slots_All] RR_ring_Ring_State [(0, [⟨.loc 15 0, .par 0, [.fld 0 0, .fld 1 1], none, none⟩, ⟨.loc 24 0, .par 0, [.fld 1 2], none, none⟩])] fun y => [e_TApi_RingState y.1, e_TRing_Ring y.2]
noncomputable def S_ring_Ring_State : LabS :=
  lab0 Tryz.f54 1 1 X_ring_Ring_State (fun x => [(V.ptr (.par 0) []), e_TRing_Ring x]) fun l => (d_TRing_Ring (at_ l 1))
noncomputable def tt_ring_Ring_State (x : X_ring_Ring_State) : TT Tryz.prog RR_ring_Ring_State :=
 (.need ((true && true) && (!x.s.nil)) <|
 (.call con_slices_Clone_uint64_o0 (Ar.mk x.cursors.heads.n x.cursors.heads.get) fun (y1 : R_slices_Clone_uint64_o0) =>
 (.call con_slots_Slots_All x.s.x fun (y2 : R_slots_Slots_All) =>
 (.need ((true && true) && (!x.s.nil)) <|
 (.side ((fun v : V => v = v) (V.cons (V.osl 150 3 x.s.x.l.nil x.s.x.l.n (fun i3 => (V.cons (V.int IntKind.u64 (x.s.x.l.get i3).Stamp) (V.cons (V.int IntKind.u64 (x.s.x.l.get i3).Value) (V.cons (V.int IntKind.i64 (x.s.x.l.get i3).Left) V.unit))))) (V.cons (V.int IntKind.i64 x.s.x.readers) V.unit))) <|
 (.need ((true && true) && (Nat.beq x.cursors.heads.n x.cursors.heads.n)) <|
 (.ret ((TApi_RingState.mk x.cursors.tail y1 x.closed y2), x))
 )
 )
 )
 )
 )
 )
theorem sd_ring_Ring_State (x : X_ring_Ring_State) : (tt_ring_Ring_State x).Sides :=
  (TT.s_need (TT.s_call fun _ => (TT.s_call fun _ => (TT.s_need (TT.s_side rfl (TT.s_need TT.s_ret))))))
theorem roT_ring_Ring_State (x : X_ring_Ring_State) : TT.Ro p_ring_Ring_State (w_ring_Ring_State x) (tt_ring_Ring_State x) :=
  (TT.ro_need (TT.ro_call fun _ => (TT.ro_call fun _ => (TT.ro_need (TT.ro_side (TT.ro_need (TT.ro_ret rfl)))))))

noncomputable def D_ring_Ring_State : Dyn X_ring_Ring_State R_ring_Ring_State := .ro (.of tt_ring_Ring_State) (fun y => (y.1)) (fun y x => (y, x)) fun x y h => congrArg (fun o => (y.1, o)) (roT_ring_Ring_State x y h)
noncomputable def con_ring_Ring_State : Con Tryz.prog :=
  mkConP 54 J_ring_Ring_State S_ring_Ring_State (.of tt_ring_Ring_State) D_ring_Ring_State (fun y x => (y, x)) (fun _ _ h => h) (fun y => e_TApi_RingState y) 1 1 [.any] (by kernel_rfl) (by kernel_rfl) (by kernel_rfl) (lab_ok mixed_ok labs_nil 4000 (fun x => by kernel_rfl) sd_ring_Ring_State) rfl rfl (fun _ => rfl) (by kernel_rfl) rfl (fun _ _ => rfl) (fun _ => rfl) (fun x => ⟨(nu_e_TRing_Ring : ∀ y, (e_TRing_Ring y).NoU) (x), trivial⟩)
end Go.Proofs.YtiplcdhnjennfaaGreat
