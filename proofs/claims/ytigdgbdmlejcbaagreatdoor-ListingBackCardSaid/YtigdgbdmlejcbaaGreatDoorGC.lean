/- What functions of the program come to, part C: no statement is proved here. -/
import Derived.Test.YtigdgbdmlejcbaaGreatDoorGB
namespace Go.Proofs.YtigdgbdmlejcbaaGreatDoor
open Go Go.Vm Go.Proofs
set_option maxRecDepth 100000
set_option maxHeartbeats 4000000
/-! rondeaulaw10.ListingLines (w10_ListingLines) -/
abbrev X_w10_ListingLines : Type := TApi_Program
abbrev R_w10_ListingLines : Type := Bool
noncomputable def J_w10_ListingLines : Job Tryz.prog :=
  job Tryz.prog Tryz.f7 110 [(1, 3), (28, 1), (52, 1), (60, 1)] [] [] [] [.any] [] [con_listing_Line, con_listing_Print, con_r09_Few, con_r10_Listed, con_w10_awake] R_w10_ListingLines [] fun y => [V.bool y]
noncomputable def S_w10_ListingLines : LabS :=
  lab0 Tryz.f7 1 0 X_w10_ListingLines (fun x => [e_TApi_Program x]) fun l => (d_TApi_Program (at_ l 0))
structure X_w10_ListingLines_3 where
  p_1 : TApi_Program
noncomputable def S_w10_ListingLines_3 : LabS :=
  labAt Tryz.f7 3 [(1, .any)] [] [] X_w10_ListingLines_3 (fun x => [(eVp e_TApi_Program) x.p_1]) fun l => ⟨(dVp d_TApi_Program) (at_ l 0)⟩
structure X_w10_ListingLines_6 where
  p_1 : TApi_Program
  s_3 : ByteArray
  e_4 : Int
  n_5 : Int
  want_6 : ByteArray
  q_35 : Int
  q_36 : Int
noncomputable def S_w10_ListingLines_6 : LabS :=
  labAt Tryz.f7 6 [(1, .any), (3, .any), (4, .any), (5, .any), (6, .any), (35, .any), (36, .any)] [] [] X_w10_ListingLines_6 (fun x => [(eVp e_TApi_Program) x.p_1, V.str x.s_3, (V.int .i64) x.e_4, (V.int .i64) x.n_5, V.str x.want_6, (V.int .i64) x.q_35, (V.int .i64) x.q_36]) fun l => ⟨(dVp d_TApi_Program) (at_ l 0), dS (at_ l 1), dI (at_ l 2), dI (at_ l 3), dS (at_ l 4), dI (at_ l 5), dI (at_ l 6)⟩
structure X_w10_ListingLines_9 where
  p_1 : TApi_Program
  s_3 : ByteArray
  e_4 : Int
  n_5 : Int
  want_6 : ByteArray
noncomputable def S_w10_ListingLines_9 : LabS :=
  labAt Tryz.f7 9 [(1, .any), (3, .any), (4, .any), (5, .any), (6, .any)] [] [] X_w10_ListingLines_9 (fun x => [(eVp e_TApi_Program) x.p_1, V.str x.s_3, (V.int .i64) x.e_4, (V.int .i64) x.n_5, V.str x.want_6]) fun l => ⟨(dVp d_TApi_Program) (at_ l 0), dS (at_ l 1), dI (at_ l 2), dI (at_ l 3), dS (at_ l 4)⟩
structure X_w10_ListingLines_10 where
  s_3 : ByteArray
  e_4 : Int
  n_5 : Int
  want_6 : ByteArray
  q_42 : (Sl (Sl TApi_Instr))
  q_43 : Int
  q_44 : Int
noncomputable def S_w10_ListingLines_10 : LabS :=
  labAt Tryz.f7 10 [(3, .any), (4, .any), (5, .any), (6, .any), (42, hsl_sl_TApi_Instr), (43, .any), (44, .any)] [] [] X_w10_ListingLines_10 (fun x => [V.str x.s_3, (V.int .i64) x.e_4, (V.int .i64) x.n_5, V.str x.want_6, esl_sl_TApi_Instr x.q_42, (V.int .i64) x.q_43, (V.int .i64) x.q_44]) fun l => ⟨dS (at_ l 0), dI (at_ l 1), dI (at_ l 2), dS (at_ l 3), dsl_sl_TApi_Instr (at_ l 4), dI (at_ l 5), dI (at_ l 6)⟩
structure X_w10_ListingLines_15 where
  s_3 : ByteArray
  e_4 : Int
  n_5 : Int
  want_6 : ByteArray
  q_42 : (Sl (Sl TApi_Instr))
  q_43 : Int
  q_44 : Int
  q_52 : (Sl TApi_Instr)
  q_53 : Int
  q_54 : Int
noncomputable def S_w10_ListingLines_15 : LabS :=
  labAt Tryz.f7 15 [(3, .any), (4, .any), (5, .any), (6, .any), (42, hsl_sl_TApi_Instr), (43, .any), (44, .any), (52, hsl_TApi_Instr), (53, .any), (54, .any)] [] [] X_w10_ListingLines_15 (fun x => [V.str x.s_3, (V.int .i64) x.e_4, (V.int .i64) x.n_5, V.str x.want_6, esl_sl_TApi_Instr x.q_42, (V.int .i64) x.q_43, (V.int .i64) x.q_44, esl_TApi_Instr x.q_52, (V.int .i64) x.q_53, (V.int .i64) x.q_54]) fun l => ⟨dS (at_ l 0), dI (at_ l 1), dI (at_ l 2), dS (at_ l 3), dsl_sl_TApi_Instr (at_ l 4), dI (at_ l 5), dI (at_ l 6), dsl_TApi_Instr (at_ l 7), dI (at_ l 8), dI (at_ l 9)⟩
structure X_w10_ListingLines_23 where
  s_3 : ByteArray
  e_4 : Int
  n_5 : Int
  want_6 : ByteArray
  q_42 : (Sl (Sl TApi_Instr))
  q_43 : Int
  q_44 : Int
noncomputable def S_w10_ListingLines_23 : LabS :=
  labAt Tryz.f7 23 [(3, .any), (4, .any), (5, .any), (6, .any), (42, hsl_sl_TApi_Instr), (43, .any), (44, .any)] [] [] X_w10_ListingLines_23 (fun x => [V.str x.s_3, (V.int .i64) x.e_4, (V.int .i64) x.n_5, V.str x.want_6, esl_sl_TApi_Instr x.q_42, (V.int .i64) x.q_43, (V.int .i64) x.q_44]) fun l => ⟨dS (at_ l 0), dI (at_ l 1), dI (at_ l 2), dS (at_ l 3), dsl_sl_TApi_Instr (at_ l 4), dI (at_ l 5), dI (at_ l 6)⟩
structure X_w10_ListingLines_24 where
  s_3 : ByteArray
  e_4 : Int
  n_5 : Int
  want_6 : ByteArray
noncomputable def S_w10_ListingLines_24 : LabS :=
  labAt Tryz.f7 24 [(3, .any), (4, .any), (5, .any), (6, .any)] [] [] X_w10_ListingLines_24 (fun x => [V.str x.s_3, (V.int .i64) x.e_4, (V.int .i64) x.n_5, V.str x.want_6]) fun l => ⟨dS (at_ l 0), dI (at_ l 1), dI (at_ l 2), dS (at_ l 3)⟩
structure X_w10_ListingLines_26 where
  s_3 : ByteArray
  e_4 : Int
  n_5 : Int
  want_6 : ByteArray
  ends_13 : Int
  q_74 : Int
  q_75 : Int
noncomputable def S_w10_ListingLines_26 : LabS :=
  labAt Tryz.f7 26 [(3, .any), (4, .any), (5, .any), (6, .any), (13, .any), (74, .any), (75, .any)] [] [] X_w10_ListingLines_26 (fun x => [V.str x.s_3, (V.int .i64) x.e_4, (V.int .i64) x.n_5, V.str x.want_6, (V.int .i64) x.ends_13, (V.int .i64) x.q_74, (V.int .i64) x.q_75]) fun l => ⟨dS (at_ l 0), dI (at_ l 1), dI (at_ l 2), dS (at_ l 3), dI (at_ l 4), dI (at_ l 5), dI (at_ l 6)⟩
structure X_w10_ListingLines_30 where
  s_3 : ByteArray
  e_4 : Int
  n_5 : Int
  want_6 : ByteArray
  ends_13 : Int
  q_74 : Int
  q_75 : Int
noncomputable def S_w10_ListingLines_30 : LabS :=
  labAt Tryz.f7 30 [(3, .any), (4, .any), (5, .any), (6, .any), (13, .any), (74, .any), (75, .any)] [] [] X_w10_ListingLines_30 (fun x => [V.str x.s_3, (V.int .i64) x.e_4, (V.int .i64) x.n_5, V.str x.want_6, (V.int .i64) x.ends_13, (V.int .i64) x.q_74, (V.int .i64) x.q_75]) fun l => ⟨dS (at_ l 0), dI (at_ l 1), dI (at_ l 2), dS (at_ l 3), dI (at_ l 4), dI (at_ l 5), dI (at_ l 6)⟩
structure X_w10_ListingLines_31 where
  s_3 : ByteArray
  e_4 : Int
  n_5 : Int
  want_6 : ByteArray
  ends_13 : Int
noncomputable def S_w10_ListingLines_31 : LabS :=
  labAt Tryz.f7 31 [(3, .any), (4, .any), (5, .any), (6, .any), (13, .any)] [] [] X_w10_ListingLines_31 (fun x => [V.str x.s_3, (V.int .i64) x.e_4, (V.int .i64) x.n_5, V.str x.want_6, (V.int .i64) x.ends_13]) fun l => ⟨dS (at_ l 0), dI (at_ l 1), dI (at_ l 2), dS (at_ l 3), dI (at_ l 4)⟩
noncomputable def tt_w10_ListingLines_31 (x : X_w10_ListingLines_31) : TT Tryz.prog R_w10_ListingLines :=
 (.ite (ieq x.e_4 0)
 (.ite (ieq x.ends_13 x.n_5)
 (.ite (ile (((ByteArray.size x.want_6) : Nat) : Int) (((ByteArray.size x.s_3) : Nat) : Int))
 (.need (upto (IntKind.i64.wrap ((((ByteArray.size x.s_3) : Nat) : Int) - (((ByteArray.size x.want_6) : Nat) : Int))) (ByteArray.size x.s_3)) <|
 (.ret (seq (ByteArray.extract x.s_3 (Int.toNat (IntKind.i64.wrap ((((ByteArray.size x.s_3) : Nat) : Int) - (((ByteArray.size x.want_6) : Nat) : Int)))) (ByteArray.size x.s_3)) x.want_6)))
 (.ret false))
 (.ret false))
 (.ret false))
theorem sd_w10_ListingLines_31 (x : X_w10_ListingLines_31) : (tt_w10_ListingLines_31 x).Sides :=
  (TT.s_ite (TT.s_ite (TT.s_ite (TT.s_need TT.s_ret) TT.s_ret) TT.s_ret) TT.s_ret)

noncomputable def D_w10_ListingLines_31 : Dyn X_w10_ListingLines_31 R_w10_ListingLines := .of tt_w10_ListingLines_31
theorem ok_w10_ListingLines_31 : LabOK J_w10_ListingLines S_w10_ListingLines_31 D_w10_ListingLines_31 :=
  lab_ok mixed_ok labs_nil 4000 (fun x => by kernel_rfl) sd_w10_ListingLines_31
noncomputable def tt_w10_ListingLines_30 (D_w10_ListingLines_26 : Dyn X_w10_ListingLines_26 R_w10_ListingLines) (x : X_w10_ListingLines_30) : TT Tryz.prog R_w10_ListingLines :=
 (.jump S_w10_ListingLines_26 D_w10_ListingLines_26 (X_w10_ListingLines_26.mk x.s_3 x.e_4 x.n_5 x.want_6 x.ends_13 x.q_74 (IntKind.i64.wrap (x.q_75 + 1))))
theorem sd_w10_ListingLines_30 (D_w10_ListingLines_26 : Dyn X_w10_ListingLines_26 R_w10_ListingLines) (x : X_w10_ListingLines_30) : (tt_w10_ListingLines_30 D_w10_ListingLines_26 x).Sides :=
  TT.s_jump

noncomputable def D_w10_ListingLines_30 (D_w10_ListingLines_26 : Dyn X_w10_ListingLines_26 R_w10_ListingLines) : Dyn X_w10_ListingLines_30 R_w10_ListingLines := .of (tt_w10_ListingLines_30 D_w10_ListingLines_26)
theorem ok_w10_ListingLines_30 (D_w10_ListingLines_26 : Dyn X_w10_ListingLines_26 R_w10_ListingLines) (h_26 : LabOK J_w10_ListingLines S_w10_ListingLines_26 D_w10_ListingLines_26) : LabOK J_w10_ListingLines S_w10_ListingLines_30 (D_w10_ListingLines_30 D_w10_ListingLines_26) :=
  lab_ok mixed_ok (labs_cons2 h_26 rfl (labs_cons2 ok_w10_ListingLines_31 rfl labs_nil)) 4000 (fun x => by kernel_rfl) (sd_w10_ListingLines_30 D_w10_ListingLines_26)
noncomputable def tt_w10_ListingLines_26 (D_w10_ListingLines_26 : Dyn X_w10_ListingLines_26 R_w10_ListingLines) (x : X_w10_ListingLines_26) : TT Tryz.prog R_w10_ListingLines :=
 (.ite (ilt x.q_75 x.q_74)
 (.need (inb x.q_75 (ByteArray.size x.s_3)) <|
 (.ite (ieq (bt x.s_3 (Int.toNat x.q_75)) 10)
 (.jump S_w10_ListingLines_30 (D_w10_ListingLines_30 D_w10_ListingLines_26) (X_w10_ListingLines_30.mk x.s_3 x.e_4 x.n_5 x.want_6 (IntKind.i64.wrap (x.ends_13 + 1)) x.q_74 x.q_75))
 (.jump S_w10_ListingLines_30 (D_w10_ListingLines_30 D_w10_ListingLines_26) (X_w10_ListingLines_30.mk x.s_3 x.e_4 x.n_5 x.want_6 x.ends_13 x.q_74 x.q_75))))
 (.jump S_w10_ListingLines_31 D_w10_ListingLines_31 (X_w10_ListingLines_31.mk x.s_3 x.e_4 x.n_5 x.want_6 x.ends_13)))
theorem sd_w10_ListingLines_26 (D_w10_ListingLines_26 : Dyn X_w10_ListingLines_26 R_w10_ListingLines) (x : X_w10_ListingLines_26) : (tt_w10_ListingLines_26 D_w10_ListingLines_26 x).Sides :=
  (TT.s_ite (TT.s_need (TT.s_ite TT.s_jump TT.s_jump)) TT.s_jump)

noncomputable def D_w10_ListingLines_26 : Dyn X_w10_ListingLines_26 R_w10_ListingLines := Dyn.loop tt_w10_ListingLines_26
theorem ok_w10_ListingLines_26 : LabOK J_w10_ListingLines S_w10_ListingLines_26 D_w10_ListingLines_26 :=
  loop_ok fun D_w10_ListingLines_26 h_26 => lab_ok mixed_ok (labs_cons2 h_26 rfl (labs_cons2 ok_w10_ListingLines_31 rfl (labs_cons2 (ok_w10_ListingLines_30 D_w10_ListingLines_26 h_26) rfl labs_nil))) 4000 (fun x => by kernel_rfl) (sd_w10_ListingLines_26 D_w10_ListingLines_26)
noncomputable def tt_w10_ListingLines_24 (x : X_w10_ListingLines_24) : TT Tryz.prog R_w10_ListingLines :=
 (.jump S_w10_ListingLines_26 D_w10_ListingLines_26 (X_w10_ListingLines_26.mk x.s_3 x.e_4 x.n_5 x.want_6 0 (((ByteArray.size x.s_3) : Nat) : Int) 0))
theorem sd_w10_ListingLines_24 (x : X_w10_ListingLines_24) : (tt_w10_ListingLines_24 x).Sides :=
  TT.s_jump

noncomputable def D_w10_ListingLines_24 : Dyn X_w10_ListingLines_24 R_w10_ListingLines := .of tt_w10_ListingLines_24
theorem ok_w10_ListingLines_24 : LabOK J_w10_ListingLines S_w10_ListingLines_24 D_w10_ListingLines_24 :=
  lab_ok mixed_ok (labs_cons2 ok_w10_ListingLines_31 rfl (labs_cons2 ok_w10_ListingLines_26 rfl labs_nil)) 4000 (fun x => by kernel_rfl) sd_w10_ListingLines_24
noncomputable def tt_w10_ListingLines_23 (D_w10_ListingLines_10 : Dyn X_w10_ListingLines_10 R_w10_ListingLines) (x : X_w10_ListingLines_23) : TT Tryz.prog R_w10_ListingLines :=
 (.jump S_w10_ListingLines_10 D_w10_ListingLines_10 (X_w10_ListingLines_10.mk x.s_3 x.e_4 x.n_5 x.want_6 x.q_42 x.q_43 (IntKind.i64.wrap (x.q_44 + 1))))
theorem sd_w10_ListingLines_23 (D_w10_ListingLines_10 : Dyn X_w10_ListingLines_10 R_w10_ListingLines) (x : X_w10_ListingLines_23) : (tt_w10_ListingLines_23 D_w10_ListingLines_10 x).Sides :=
  TT.s_jump

noncomputable def D_w10_ListingLines_23 (D_w10_ListingLines_10 : Dyn X_w10_ListingLines_10 R_w10_ListingLines) : Dyn X_w10_ListingLines_23 R_w10_ListingLines := .of (tt_w10_ListingLines_23 D_w10_ListingLines_10)
theorem ok_w10_ListingLines_23 (D_w10_ListingLines_10 : Dyn X_w10_ListingLines_10 R_w10_ListingLines) (h_10 : LabOK J_w10_ListingLines S_w10_ListingLines_10 D_w10_ListingLines_10) : LabOK J_w10_ListingLines S_w10_ListingLines_23 (D_w10_ListingLines_23 D_w10_ListingLines_10) :=
  lab_ok mixed_ok (labs_cons2 h_10 rfl (labs_cons2 ok_w10_ListingLines_31 rfl (labs_cons2 ok_w10_ListingLines_26 rfl (labs_cons2 ok_w10_ListingLines_24 rfl labs_nil)))) 4000 (fun x => by kernel_rfl) (sd_w10_ListingLines_23 D_w10_ListingLines_10)
noncomputable def tt_w10_ListingLines_15 (D_w10_ListingLines_10 : Dyn X_w10_ListingLines_10 R_w10_ListingLines) (D_w10_ListingLines_15 : Dyn X_w10_ListingLines_15 R_w10_ListingLines) (x : X_w10_ListingLines_15) : TT Tryz.prog R_w10_ListingLines :=
 (.ite (ilt x.q_54 x.q_53)
 (.need (inb x.q_54 x.q_52.n) <|
 (.call con_listing_Line (x.q_52.get (Int.toNat x.q_54)) fun (y3 : R_listing_Line) =>
 (.ite (!(ieq y3.snd 0))
 (.ret false)
 (.need (decide ((((ByteArray.size y3.fst) + (ByteArray.size (ByteArray.mk #[10]))) ≤ (9223372036854775807 : Nat)))) <|
 (.need (decide ((((ByteArray.size x.want_6) + (ByteArray.size (y3.fst ++ (ByteArray.mk #[10])))) ≤ (9223372036854775807 : Nat)))) <|
 (.jump S_w10_ListingLines_15 D_w10_ListingLines_15 (X_w10_ListingLines_15.mk x.s_3 x.e_4 (IntKind.i64.wrap (x.n_5 + 1)) (x.want_6 ++ (y3.fst ++ (ByteArray.mk #[10]))) x.q_42 x.q_43 x.q_44 x.q_52 x.q_53 (IntKind.i64.wrap (x.q_54 + 1)))))))))
 (.jump S_w10_ListingLines_23 (D_w10_ListingLines_23 D_w10_ListingLines_10) (X_w10_ListingLines_23.mk x.s_3 x.e_4 x.n_5 x.want_6 x.q_42 x.q_43 x.q_44)))
theorem sd_w10_ListingLines_15 (D_w10_ListingLines_10 : Dyn X_w10_ListingLines_10 R_w10_ListingLines) (D_w10_ListingLines_15 : Dyn X_w10_ListingLines_15 R_w10_ListingLines) (x : X_w10_ListingLines_15) : (tt_w10_ListingLines_15 D_w10_ListingLines_10 D_w10_ListingLines_15 x).Sides :=
  (TT.s_ite (TT.s_need (TT.s_call fun _ => (TT.s_ite TT.s_ret (TT.s_need (TT.s_need TT.s_jump))))) TT.s_jump)

noncomputable def D_w10_ListingLines_15 (D_w10_ListingLines_10 : Dyn X_w10_ListingLines_10 R_w10_ListingLines) : Dyn X_w10_ListingLines_15 R_w10_ListingLines := Dyn.loop (tt_w10_ListingLines_15 D_w10_ListingLines_10)
theorem ok_w10_ListingLines_15 (D_w10_ListingLines_10 : Dyn X_w10_ListingLines_10 R_w10_ListingLines) (h_10 : LabOK J_w10_ListingLines S_w10_ListingLines_10 D_w10_ListingLines_10) : LabOK J_w10_ListingLines S_w10_ListingLines_15 (D_w10_ListingLines_15 D_w10_ListingLines_10) :=
  loop_ok fun D_w10_ListingLines_15 h_15 => lab_ok mixed_ok (labs_cons2 h_10 rfl (labs_cons2 h_15 rfl (labs_cons2 ok_w10_ListingLines_31 rfl (labs_cons2 ok_w10_ListingLines_26 rfl (labs_cons2 ok_w10_ListingLines_24 rfl (labs_cons2 (ok_w10_ListingLines_23 D_w10_ListingLines_10 h_10) rfl labs_nil)))))) 4000 (fun x => by kernel_rfl) (sd_w10_ListingLines_15 D_w10_ListingLines_10 D_w10_ListingLines_15)
noncomputable def tt_w10_ListingLines_10 (D_w10_ListingLines_10 : Dyn X_w10_ListingLines_10 R_w10_ListingLines) (x : X_w10_ListingLines_10) : TT Tryz.prog R_w10_ListingLines :=
 (.ite (ilt x.q_44 x.q_43)
 (.need (inb x.q_44 x.q_42.n) <|
 (.need (decide ((((ByteArray.size x.want_6) + (ByteArray.size (ByteArray.mk #[116, 104, 114, 101, 97, 100, 10]))) ≤ (9223372036854775807 : Nat)))) <|
 (.jump S_w10_ListingLines_15 (D_w10_ListingLines_15 D_w10_ListingLines_10) (X_w10_ListingLines_15.mk x.s_3 x.e_4 (IntKind.i64.wrap (x.n_5 + 1)) (x.want_6 ++ (ByteArray.mk #[116, 104, 114, 101, 97, 100, 10])) x.q_42 x.q_43 x.q_44 (x.q_42.get (Int.toNat x.q_44)) (((x.q_42.get (Int.toNat x.q_44)).n : Nat) : Int) 0))))
 (.jump S_w10_ListingLines_24 D_w10_ListingLines_24 (X_w10_ListingLines_24.mk x.s_3 x.e_4 x.n_5 x.want_6)))
theorem sd_w10_ListingLines_10 (D_w10_ListingLines_10 : Dyn X_w10_ListingLines_10 R_w10_ListingLines) (x : X_w10_ListingLines_10) : (tt_w10_ListingLines_10 D_w10_ListingLines_10 x).Sides :=
  (TT.s_ite (TT.s_need (TT.s_need TT.s_jump)) TT.s_jump)

noncomputable def D_w10_ListingLines_10 : Dyn X_w10_ListingLines_10 R_w10_ListingLines := Dyn.loop tt_w10_ListingLines_10
theorem ok_w10_ListingLines_10 : LabOK J_w10_ListingLines S_w10_ListingLines_10 D_w10_ListingLines_10 :=
  loop_ok fun D_w10_ListingLines_10 h_10 => lab_ok mixed_ok (labs_cons2 h_10 rfl (labs_cons2 ok_w10_ListingLines_31 rfl (labs_cons2 ok_w10_ListingLines_26 rfl (labs_cons2 ok_w10_ListingLines_24 rfl (labs_cons2 (ok_w10_ListingLines_23 D_w10_ListingLines_10 h_10) rfl (labs_cons2 (ok_w10_ListingLines_15 D_w10_ListingLines_10 h_10) rfl labs_nil)))))) 4000 (fun x => by kernel_rfl) (sd_w10_ListingLines_10 D_w10_ListingLines_10)
noncomputable def tt_w10_ListingLines_9 (x : X_w10_ListingLines_9) : TT Tryz.prog R_w10_ListingLines :=
 (.jump S_w10_ListingLines_10 D_w10_ListingLines_10 (X_w10_ListingLines_10.mk x.s_3 x.e_4 x.n_5 x.want_6 x.p_1.Threads ((x.p_1.Threads.n : Nat) : Int) 0))
theorem sd_w10_ListingLines_9 (x : X_w10_ListingLines_9) : (tt_w10_ListingLines_9 x).Sides :=
  TT.s_jump

noncomputable def D_w10_ListingLines_9 : Dyn X_w10_ListingLines_9 R_w10_ListingLines := .of tt_w10_ListingLines_9
theorem ok_w10_ListingLines_9 : LabOK J_w10_ListingLines S_w10_ListingLines_9 D_w10_ListingLines_9 :=
  lab_ok mixed_ok (labs_cons2 ok_w10_ListingLines_31 rfl (labs_cons2 ok_w10_ListingLines_26 rfl (labs_cons2 ok_w10_ListingLines_24 rfl (labs_cons2 ok_w10_ListingLines_10 rfl labs_nil)))) 4000 (fun x => by kernel_rfl) sd_w10_ListingLines_9
noncomputable def tt_w10_ListingLines_6 (D_w10_ListingLines_6 : Dyn X_w10_ListingLines_6 R_w10_ListingLines) (x : X_w10_ListingLines_6) : TT Tryz.prog R_w10_ListingLines :=
 (.ite (ilt x.q_36 x.q_35)
 (.jump S_w10_ListingLines_6 D_w10_ListingLines_6 (X_w10_ListingLines_6.mk x.p_1 x.s_3 x.e_4 (IntKind.i64.wrap (x.n_5 + 1)) x.want_6 x.q_35 (IntKind.i64.wrap (x.q_36 + 1))))
 (.jump S_w10_ListingLines_9 D_w10_ListingLines_9 (X_w10_ListingLines_9.mk x.p_1 x.s_3 x.e_4 x.n_5 x.want_6)))
theorem sd_w10_ListingLines_6 (D_w10_ListingLines_6 : Dyn X_w10_ListingLines_6 R_w10_ListingLines) (x : X_w10_ListingLines_6) : (tt_w10_ListingLines_6 D_w10_ListingLines_6 x).Sides :=
  (TT.s_ite TT.s_jump TT.s_jump)

noncomputable def D_w10_ListingLines_6 : Dyn X_w10_ListingLines_6 R_w10_ListingLines := Dyn.loop tt_w10_ListingLines_6
theorem ok_w10_ListingLines_6 : LabOK J_w10_ListingLines S_w10_ListingLines_6 D_w10_ListingLines_6 :=
  loop_ok fun D_w10_ListingLines_6 h_6 => lab_ok mixed_ok (labs_cons2 h_6 rfl (labs_cons2 ok_w10_ListingLines_31 rfl (labs_cons2 ok_w10_ListingLines_26 rfl (labs_cons2 ok_w10_ListingLines_24 rfl (labs_cons2 ok_w10_ListingLines_10 rfl (labs_cons2 ok_w10_ListingLines_9 rfl labs_nil)))))) 4000 (fun x => by kernel_rfl) (sd_w10_ListingLines_6 D_w10_ListingLines_6)
noncomputable def tt_w10_ListingLines_3 (x : X_w10_ListingLines_3) : TT Tryz.prog R_w10_ListingLines :=
 (.call con_listing_Print x.p_1 fun (y1 : R_listing_Print) =>
 (.jump S_w10_ListingLines_6 D_w10_ListingLines_6 (X_w10_ListingLines_6.mk x.p_1 y1.fst y1.snd 0 (ByteArray.mk #[]) ((x.p_1.Rings.n : Nat) : Int) 0)))
theorem sd_w10_ListingLines_3 (x : X_w10_ListingLines_3) : (tt_w10_ListingLines_3 x).Sides :=
  (TT.s_call fun _ => TT.s_jump)

noncomputable def D_w10_ListingLines_3 : Dyn X_w10_ListingLines_3 R_w10_ListingLines := .of tt_w10_ListingLines_3
theorem ok_w10_ListingLines_3 : LabOK J_w10_ListingLines S_w10_ListingLines_3 D_w10_ListingLines_3 :=
  lab_ok mixed_ok (labs_cons2 ok_w10_ListingLines_31 rfl (labs_cons2 ok_w10_ListingLines_26 rfl (labs_cons2 ok_w10_ListingLines_24 rfl (labs_cons2 ok_w10_ListingLines_10 rfl (labs_cons2 ok_w10_ListingLines_9 rfl (labs_cons2 ok_w10_ListingLines_6 rfl labs_nil)))))) 4000 (fun x => by kernel_rfl) sd_w10_ListingLines_3
noncomputable def tt_w10_ListingLines (x : X_w10_ListingLines) : TT Tryz.prog R_w10_ListingLines :=
 (.call con_w10_awake PUnit.unit fun (y1 : R_w10_awake) =>
 (.ite (!y1)
 (.call con_w10_awake PUnit.unit fun (y2 : R_w10_awake) =>
 (.ret y2))
 (.call con_r09_Few (x, 100) fun (y2 : R_r09_Few) =>
 (.ite (!y2)
 (.call con_w10_awake PUnit.unit fun (y3 : R_w10_awake) =>
 (.ret y3))
 (.call con_r10_Listed x fun (y3 : R_r10_Listed) =>
 (.ite (!y3)
 (.call con_w10_awake PUnit.unit fun (y4 : R_w10_awake) =>
 (.ret y4))
 (.jump S_w10_ListingLines_3 D_w10_ListingLines_3 (X_w10_ListingLines_3.mk x))))))))
theorem sd_w10_ListingLines (x : X_w10_ListingLines) : (tt_w10_ListingLines x).Sides :=
  (TT.s_call fun _ => (TT.s_ite (TT.s_call fun _ => TT.s_ret) (TT.s_call fun _ => (TT.s_ite (TT.s_call fun _ => TT.s_ret) (TT.s_call fun _ => (TT.s_ite (TT.s_call fun _ => TT.s_ret) TT.s_jump))))))

noncomputable def D_w10_ListingLines : Dyn X_w10_ListingLines R_w10_ListingLines := .of tt_w10_ListingLines
noncomputable def con_w10_ListingLines : Con Tryz.prog :=
  mkCon 7 J_w10_ListingLines S_w10_ListingLines D_w10_ListingLines D_w10_ListingLines (fun _ _ h => h) 1 0 [sh_TApi_Program] (by kernel_rfl) (by kernel_rfl) (by kernel_rfl) (lab_ok mixed_ok (labs_cons2 ok_w10_ListingLines_31 rfl (labs_cons2 ok_w10_ListingLines_26 rfl (labs_cons2 ok_w10_ListingLines_24 rfl (labs_cons2 ok_w10_ListingLines_10 rfl (labs_cons2 ok_w10_ListingLines_9 rfl (labs_cons2 ok_w10_ListingLines_6 rfl (labs_cons2 ok_w10_ListingLines_3 rfl labs_nil))))))) 4000 (fun x => by kernel_rfl) sd_w10_ListingLines) rfl rfl (fun _ => rfl) (by kernel_rfl) rfl (fun _ => rfl) (fun x y _ => by kernel_rfl)

/-! rondeaulaw10.ListingPlace (w10_ListingPlace) -/
abbrev X_w10_ListingPlace : Type := TApi_Program × ByteArray × ByteArray
abbrev R_w10_ListingPlace : Type := Bool
noncomputable def J_w10_ListingPlace : Job Tryz.prog :=
  job Tryz.prog Tryz.f8 97 [(3, 3), (57, 1), (79, 1)] [] [] [] [.any] [] [con_listing_Read, con_r09_Few, con_r10_Listed, con_r10_Print, con_r10_Read, con_w10_awake] R_w10_ListingPlace [] fun y => [V.bool y]
noncomputable def S_w10_ListingPlace : LabS :=
  lab0 Tryz.f8 3 0 X_w10_ListingPlace (fun x => [e_TApi_Program x.1, V.str x.2.1, V.str x.2.2]) fun l => (d_TApi_Program (at_ l 0), dS (at_ l 1), dS (at_ l 2))
structure X_w10_ListingPlace_3 where
  bad_1 : ByteArray
  more_2 : ByteArray
  p_3 : TApi_Program
noncomputable def S_w10_ListingPlace_3 : LabS :=
  labAt Tryz.f8 3 [(1, .any), (2, .any), (3, .any)] [] [] X_w10_ListingPlace_3 (fun x => [V.str x.bad_1, V.str x.more_2, (eVp e_TApi_Program) x.p_3]) fun l => ⟨dS (at_ l 0), dS (at_ l 1), (dVp d_TApi_Program) (at_ l 2)⟩
structure X_w10_ListingPlace_4 where
  bad_1 : ByteArray
  more_2 : ByteArray
  p_3 : TApi_Program
  q_46 : Int
  q_47 : Int
noncomputable def S_w10_ListingPlace_4 : LabS :=
  labAt Tryz.f8 4 [(1, .any), (2, .any), (3, .any), (46, .any), (47, .any)] [] [] X_w10_ListingPlace_4 (fun x => [V.str x.bad_1, V.str x.more_2, (eVp e_TApi_Program) x.p_3, (V.int .i64) x.q_46, (V.int .i64) x.q_47]) fun l => ⟨dS (at_ l 0), dS (at_ l 1), (dVp d_TApi_Program) (at_ l 2), dI (at_ l 3), dI (at_ l 4)⟩
structure X_w10_ListingPlace_9 where
  bad_1 : ByteArray
  more_2 : ByteArray
  p_3 : TApi_Program
noncomputable def S_w10_ListingPlace_9 : LabS :=
  labAt Tryz.f8 9 [(1, .any), (2, .any), (3, .any)] [] [] X_w10_ListingPlace_9 (fun x => [V.str x.bad_1, V.str x.more_2, (eVp e_TApi_Program) x.p_3]) fun l => ⟨dS (at_ l 0), dS (at_ l 1), (dVp d_TApi_Program) (at_ l 2)⟩
structure X_w10_ListingPlace_15 where
  bad_1 : ByteArray
  more_2 : ByteArray
  s_8 : ByteArray
  n_11 : Int
  q_68 : Int
  q_69 : Int
noncomputable def S_w10_ListingPlace_15 : LabS :=
  labAt Tryz.f8 15 [(1, .any), (2, .any), (8, .any), (11, .any), (68, .any), (69, .any)] [] [] X_w10_ListingPlace_15 (fun x => [V.str x.bad_1, V.str x.more_2, V.str x.s_8, (V.int .i64) x.n_11, (V.int .i64) x.q_68, (V.int .i64) x.q_69]) fun l => ⟨dS (at_ l 0), dS (at_ l 1), dS (at_ l 2), dI (at_ l 3), dI (at_ l 4), dI (at_ l 5)⟩
structure X_w10_ListingPlace_19 where
  bad_1 : ByteArray
  more_2 : ByteArray
  s_8 : ByteArray
  n_11 : Int
  q_68 : Int
  q_69 : Int
noncomputable def S_w10_ListingPlace_19 : LabS :=
  labAt Tryz.f8 19 [(1, .any), (2, .any), (8, .any), (11, .any), (68, .any), (69, .any)] [] [] X_w10_ListingPlace_19 (fun x => [V.str x.bad_1, V.str x.more_2, V.str x.s_8, (V.int .i64) x.n_11, (V.int .i64) x.q_68, (V.int .i64) x.q_69]) fun l => ⟨dS (at_ l 0), dS (at_ l 1), dS (at_ l 2), dI (at_ l 3), dI (at_ l 4), dI (at_ l 5)⟩
structure X_w10_ListingPlace_20 where
  bad_1 : ByteArray
  more_2 : ByteArray
  s_8 : ByteArray
  n_11 : Int
noncomputable def S_w10_ListingPlace_20 : LabS :=
  labAt Tryz.f8 20 [(1, .any), (2, .any), (8, .any), (11, .any)] [] [] X_w10_ListingPlace_20 (fun x => [V.str x.bad_1, V.str x.more_2, V.str x.s_8, (V.int .i64) x.n_11]) fun l => ⟨dS (at_ l 0), dS (at_ l 1), dS (at_ l 2), dI (at_ l 3)⟩
noncomputable def tt_w10_ListingPlace_20 (x : X_w10_ListingPlace_20) : TT Tryz.prog R_w10_ListingPlace :=
 (.need (decide ((((ByteArray.size x.s_8) + (ByteArray.size x.bad_1)) ≤ (9223372036854775807 : Nat)))) <|
 (.need (decide ((((ByteArray.size (x.s_8 ++ x.bad_1)) + (ByteArray.size (ByteArray.mk #[10]))) ≤ (9223372036854775807 : Nat)))) <|
 (.need (decide ((((ByteArray.size ((x.s_8 ++ x.bad_1) ++ (ByteArray.mk #[10]))) + (ByteArray.size x.more_2)) ≤ (9223372036854775807 : Nat)))) <|
 (.call con_listing_Read (((x.s_8 ++ x.bad_1) ++ (ByteArray.mk #[10])) ++ x.more_2) fun (y1 : R_listing_Read) =>
 (.ite (ieq y1.snd.snd 3)
 (.ret (ieq y1.snd.fst x.n_11))
 (.ret false))))))
theorem sd_w10_ListingPlace_20 (x : X_w10_ListingPlace_20) : (tt_w10_ListingPlace_20 x).Sides :=
  (TT.s_need (TT.s_need (TT.s_need (TT.s_call fun _ => (TT.s_ite TT.s_ret TT.s_ret)))))

noncomputable def D_w10_ListingPlace_20 : Dyn X_w10_ListingPlace_20 R_w10_ListingPlace := .of tt_w10_ListingPlace_20
theorem ok_w10_ListingPlace_20 : LabOK J_w10_ListingPlace S_w10_ListingPlace_20 D_w10_ListingPlace_20 :=
  lab_ok mixed_ok labs_nil 4000 (fun x => by kernel_rfl) sd_w10_ListingPlace_20
noncomputable def tt_w10_ListingPlace_19 (D_w10_ListingPlace_15 : Dyn X_w10_ListingPlace_15 R_w10_ListingPlace) (x : X_w10_ListingPlace_19) : TT Tryz.prog R_w10_ListingPlace :=
 (.jump S_w10_ListingPlace_15 D_w10_ListingPlace_15 (X_w10_ListingPlace_15.mk x.bad_1 x.more_2 x.s_8 x.n_11 x.q_68 (IntKind.i64.wrap (x.q_69 + 1))))
theorem sd_w10_ListingPlace_19 (D_w10_ListingPlace_15 : Dyn X_w10_ListingPlace_15 R_w10_ListingPlace) (x : X_w10_ListingPlace_19) : (tt_w10_ListingPlace_19 D_w10_ListingPlace_15 x).Sides :=
  TT.s_jump

noncomputable def D_w10_ListingPlace_19 (D_w10_ListingPlace_15 : Dyn X_w10_ListingPlace_15 R_w10_ListingPlace) : Dyn X_w10_ListingPlace_19 R_w10_ListingPlace := .of (tt_w10_ListingPlace_19 D_w10_ListingPlace_15)
theorem ok_w10_ListingPlace_19 (D_w10_ListingPlace_15 : Dyn X_w10_ListingPlace_15 R_w10_ListingPlace) (h_15 : LabOK J_w10_ListingPlace S_w10_ListingPlace_15 D_w10_ListingPlace_15) : LabOK J_w10_ListingPlace S_w10_ListingPlace_19 (D_w10_ListingPlace_19 D_w10_ListingPlace_15) :=
  lab_ok mixed_ok (labs_cons2 h_15 rfl (labs_cons2 ok_w10_ListingPlace_20 rfl labs_nil)) 4000 (fun x => by kernel_rfl) (sd_w10_ListingPlace_19 D_w10_ListingPlace_15)
noncomputable def tt_w10_ListingPlace_15 (D_w10_ListingPlace_15 : Dyn X_w10_ListingPlace_15 R_w10_ListingPlace) (x : X_w10_ListingPlace_15) : TT Tryz.prog R_w10_ListingPlace :=
 (.ite (ilt x.q_69 x.q_68)
 (.need (inb x.q_69 (ByteArray.size x.s_8)) <|
 (.ite (ieq (bt x.s_8 (Int.toNat x.q_69)) 10)
 (.jump S_w10_ListingPlace_19 (D_w10_ListingPlace_19 D_w10_ListingPlace_15) (X_w10_ListingPlace_19.mk x.bad_1 x.more_2 x.s_8 (IntKind.i64.wrap (x.n_11 + 1)) x.q_68 x.q_69))
 (.jump S_w10_ListingPlace_19 (D_w10_ListingPlace_19 D_w10_ListingPlace_15) (X_w10_ListingPlace_19.mk x.bad_1 x.more_2 x.s_8 x.n_11 x.q_68 x.q_69))))
 (.jump S_w10_ListingPlace_20 D_w10_ListingPlace_20 (X_w10_ListingPlace_20.mk x.bad_1 x.more_2 x.s_8 x.n_11)))
theorem sd_w10_ListingPlace_15 (D_w10_ListingPlace_15 : Dyn X_w10_ListingPlace_15 R_w10_ListingPlace) (x : X_w10_ListingPlace_15) : (tt_w10_ListingPlace_15 D_w10_ListingPlace_15 x).Sides :=
  (TT.s_ite (TT.s_need (TT.s_ite TT.s_jump TT.s_jump)) TT.s_jump)

noncomputable def D_w10_ListingPlace_15 : Dyn X_w10_ListingPlace_15 R_w10_ListingPlace := Dyn.loop tt_w10_ListingPlace_15
theorem ok_w10_ListingPlace_15 : LabOK J_w10_ListingPlace S_w10_ListingPlace_15 D_w10_ListingPlace_15 :=
  loop_ok fun D_w10_ListingPlace_15 h_15 => lab_ok mixed_ok (labs_cons2 h_15 rfl (labs_cons2 ok_w10_ListingPlace_20 rfl (labs_cons2 (ok_w10_ListingPlace_19 D_w10_ListingPlace_15 h_15) rfl labs_nil))) 4000 (fun x => by kernel_rfl) (sd_w10_ListingPlace_15 D_w10_ListingPlace_15)
noncomputable def tt_w10_ListingPlace_9 (x : X_w10_ListingPlace_9) : TT Tryz.prog R_w10_ListingPlace :=
 (.call con_r10_Print x.p_3 fun (y1 : R_r10_Print) =>
 (.need (decide ((((ByteArray.size y1) + (ByteArray.size x.bad_1)) ≤ (9223372036854775807 : Nat)))) <|
 (.need (decide ((((ByteArray.size (y1 ++ x.bad_1)) + (ByteArray.size (ByteArray.mk #[10]))) ≤ (9223372036854775807 : Nat)))) <|
 (.call con_r10_Read ((y1 ++ x.bad_1) ++ (ByteArray.mk #[10])) fun (y2 : R_r10_Read) =>
 (.ite (ieq y2.snd 0)
 (.ret true)
 (.jump S_w10_ListingPlace_15 D_w10_ListingPlace_15 (X_w10_ListingPlace_15.mk x.bad_1 x.more_2 y1 1 (((ByteArray.size y1) : Nat) : Int) 0)))))))
theorem sd_w10_ListingPlace_9 (x : X_w10_ListingPlace_9) : (tt_w10_ListingPlace_9 x).Sides :=
  (TT.s_call fun _ => (TT.s_need (TT.s_need (TT.s_call fun _ => (TT.s_ite TT.s_ret TT.s_jump)))))

noncomputable def D_w10_ListingPlace_9 : Dyn X_w10_ListingPlace_9 R_w10_ListingPlace := .of tt_w10_ListingPlace_9
theorem ok_w10_ListingPlace_9 : LabOK J_w10_ListingPlace S_w10_ListingPlace_9 D_w10_ListingPlace_9 :=
  lab_ok mixed_ok (labs_cons2 ok_w10_ListingPlace_20 rfl (labs_cons2 ok_w10_ListingPlace_15 rfl labs_nil)) 4000 (fun x => by kernel_rfl) sd_w10_ListingPlace_9
noncomputable def tt_w10_ListingPlace_4 (D_w10_ListingPlace_4 : Dyn X_w10_ListingPlace_4 R_w10_ListingPlace) (x : X_w10_ListingPlace_4) : TT Tryz.prog R_w10_ListingPlace :=
 (.ite (ilt x.q_47 x.q_46)
 (.need (inb x.q_47 (ByteArray.size x.bad_1)) <|
 (.ite (ieq (bt x.bad_1 (Int.toNat x.q_47)) 10)
 (.ret true)
 (.jump S_w10_ListingPlace_4 D_w10_ListingPlace_4 (X_w10_ListingPlace_4.mk x.bad_1 x.more_2 x.p_3 x.q_46 (IntKind.i64.wrap (x.q_47 + 1))))))
 (.jump S_w10_ListingPlace_9 D_w10_ListingPlace_9 (X_w10_ListingPlace_9.mk x.bad_1 x.more_2 x.p_3)))
theorem sd_w10_ListingPlace_4 (D_w10_ListingPlace_4 : Dyn X_w10_ListingPlace_4 R_w10_ListingPlace) (x : X_w10_ListingPlace_4) : (tt_w10_ListingPlace_4 D_w10_ListingPlace_4 x).Sides :=
  (TT.s_ite (TT.s_need (TT.s_ite TT.s_ret TT.s_jump)) TT.s_jump)

noncomputable def D_w10_ListingPlace_4 : Dyn X_w10_ListingPlace_4 R_w10_ListingPlace := Dyn.loop tt_w10_ListingPlace_4
theorem ok_w10_ListingPlace_4 : LabOK J_w10_ListingPlace S_w10_ListingPlace_4 D_w10_ListingPlace_4 :=
  loop_ok fun D_w10_ListingPlace_4 h_4 => lab_ok mixed_ok (labs_cons2 h_4 rfl (labs_cons2 ok_w10_ListingPlace_20 rfl (labs_cons2 ok_w10_ListingPlace_15 rfl (labs_cons2 ok_w10_ListingPlace_9 rfl labs_nil)))) 4000 (fun x => by kernel_rfl) (sd_w10_ListingPlace_4 D_w10_ListingPlace_4)
noncomputable def tt_w10_ListingPlace_3 (x : X_w10_ListingPlace_3) : TT Tryz.prog R_w10_ListingPlace :=
 (.jump S_w10_ListingPlace_4 D_w10_ListingPlace_4 (X_w10_ListingPlace_4.mk x.bad_1 x.more_2 x.p_3 (((ByteArray.size x.bad_1) : Nat) : Int) 0))
theorem sd_w10_ListingPlace_3 (x : X_w10_ListingPlace_3) : (tt_w10_ListingPlace_3 x).Sides :=
  TT.s_jump

noncomputable def D_w10_ListingPlace_3 : Dyn X_w10_ListingPlace_3 R_w10_ListingPlace := .of tt_w10_ListingPlace_3
theorem ok_w10_ListingPlace_3 : LabOK J_w10_ListingPlace S_w10_ListingPlace_3 D_w10_ListingPlace_3 :=
  lab_ok mixed_ok (labs_cons2 ok_w10_ListingPlace_20 rfl (labs_cons2 ok_w10_ListingPlace_15 rfl (labs_cons2 ok_w10_ListingPlace_9 rfl (labs_cons2 ok_w10_ListingPlace_4 rfl labs_nil)))) 4000 (fun x => by kernel_rfl) sd_w10_ListingPlace_3
noncomputable def tt_w10_ListingPlace (x : X_w10_ListingPlace) : TT Tryz.prog R_w10_ListingPlace :=
 (.call con_w10_awake PUnit.unit fun (y1 : R_w10_awake) =>
 (.ite (!y1)
 (.call con_w10_awake PUnit.unit fun (y2 : R_w10_awake) =>
 (.ret y2))
 (.call con_r09_Few (x.fst, 60) fun (y2 : R_r09_Few) =>
 (.ite (!y2)
 (.call con_w10_awake PUnit.unit fun (y3 : R_w10_awake) =>
 (.ret y3))
 (.call con_r10_Listed x.fst fun (y3 : R_r10_Listed) =>
 (.ite (!y3)
 (.call con_w10_awake PUnit.unit fun (y4 : R_w10_awake) =>
 (.ret y4))
 (.ite (ilt 60 (((ByteArray.size x.snd.fst) : Nat) : Int))
 (.call con_w10_awake PUnit.unit fun (y4 : R_w10_awake) =>
 (.ret y4))
 (.ite (ilt 100 (((ByteArray.size x.snd.snd) : Nat) : Int))
 (.call con_w10_awake PUnit.unit fun (y4 : R_w10_awake) =>
 (.ret y4))
 (.ite (ieq ((x.fst.Threads.n : Nat) : Int) 0)
 (.call con_w10_awake PUnit.unit fun (y4 : R_w10_awake) =>
 (.ret y4))
 (.jump S_w10_ListingPlace_3 D_w10_ListingPlace_3 (X_w10_ListingPlace_3.mk x.snd.fst x.snd.snd x.fst)))))))))))
theorem sd_w10_ListingPlace (x : X_w10_ListingPlace) : (tt_w10_ListingPlace x).Sides :=
  (TT.s_call fun _ => (TT.s_ite (TT.s_call fun _ => TT.s_ret) (TT.s_call fun _ => (TT.s_ite (TT.s_call fun _ => TT.s_ret) (TT.s_call fun _ => (TT.s_ite (TT.s_call fun _ => TT.s_ret) (TT.s_ite (TT.s_call fun _ => TT.s_ret) (TT.s_ite (TT.s_call fun _ => TT.s_ret) (TT.s_ite (TT.s_call fun _ => TT.s_ret) TT.s_jump)))))))))

noncomputable def D_w10_ListingPlace : Dyn X_w10_ListingPlace R_w10_ListingPlace := .of tt_w10_ListingPlace
noncomputable def con_w10_ListingPlace : Con Tryz.prog :=
  mkCon 8 J_w10_ListingPlace S_w10_ListingPlace D_w10_ListingPlace D_w10_ListingPlace (fun _ _ h => h) 3 0 [sh_TApi_Program, .any, .any] (by kernel_rfl) (by kernel_rfl) (by kernel_rfl) (lab_ok mixed_ok (labs_cons2 ok_w10_ListingPlace_20 rfl (labs_cons2 ok_w10_ListingPlace_15 rfl (labs_cons2 ok_w10_ListingPlace_9 rfl (labs_cons2 ok_w10_ListingPlace_4 rfl (labs_cons2 ok_w10_ListingPlace_3 rfl labs_nil))))) 4000 (fun x => by kernel_rfl) sd_w10_ListingPlace) rfl rfl (fun _ => rfl) (by kernel_rfl) rfl (fun _ => rfl) (fun x y _ => by kernel_rfl)
end Go.Proofs.YtigdgbdmlejcbaaGreatDoor
