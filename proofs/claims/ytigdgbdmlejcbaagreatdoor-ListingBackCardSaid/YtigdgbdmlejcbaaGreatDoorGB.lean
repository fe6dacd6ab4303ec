/- What functions of the program come to, part B: no statement is proved here. -/
import Derived.Test.YtigdgbdmlejcbaaGreatDoorGA
namespace Go.Proofs.YtigdgbdmlejcbaaGreatDoor
open Go Go.Vm Go.Proofs
set_option maxRecDepth 100000
set_option maxHeartbeats 4000000
/-! rondeauref09.form (r09_form) -/
abbrev X_r09_form : Type := Int
abbrev R_r09_form : Type := ByteArray
noncomputable def J_r09_form : Job Tryz.prog :=
  job Tryz.prog Tryz.f28 53 [] [] [] [] [.any] [] [] R_r09_form [] fun y => [V.str y]
noncomputable def S_r09_form : LabS :=
  lab0 Tryz.f28 1 0 X_r09_form (fun x => [(V.int .i64) x]) fun l => (dI (at_ l 0))
noncomputable def tt_r09_form (x : X_r09_form) : TT Tryz.prog R_r09_form :=
 (.ite (ieq x 1)
 (.ret (ByteArray.mk #[114, 48, 48, 48, 110]))
 (.ite (ieq x 2)
 (.ret (ByteArray.mk #[114, 114, 48, 48, 48]))
 (.ite (ieq x 23)
 (.ret (ByteArray.mk #[114, 114, 48, 48, 48]))
 (.ite (ile 3 x)
 (.ite (ile x 14)
 (.ret (ByteArray.mk #[114, 114, 114, 48, 48]))
 (.ite (ieq x 15)
 (.ret (ByteArray.mk #[48, 48, 48, 48, 112]))
 (.ite (ieq x 16)
 (.ret (ByteArray.mk #[114, 48, 48, 48, 112]))
 (.ite (ieq x 17)
 (.ret (ByteArray.mk #[114, 48, 48, 48, 112]))
 (.ite (ieq x 18)
 (.ret (ByteArray.mk #[114, 114, 103, 109, 48]))
 (.ite (ieq x 19)
 (.ret (ByteArray.mk #[114, 114, 103, 109, 100]))
 (.ite (ieq x 20)
 (.ret (ByteArray.mk #[48, 48, 103, 48, 48]))
 (.ite (ieq x 21)
 (.ret (ByteArray.mk #[114, 48, 48, 48, 48]))
 (.ite (ieq x 22)
 (.ret (ByteArray.mk #[114, 48, 48, 48, 48]))
 (.ite (ieq x 24)
 (.ret (ByteArray.mk #[114, 48, 48, 48, 48]))
 (.ite (ieq x 25)
 (.ret (ByteArray.mk #[48, 48, 48, 48, 48]))
 (.ret (ByteArray.mk #[])))))))))))))
 (.ite (ieq x 15)
 (.ret (ByteArray.mk #[48, 48, 48, 48, 112]))
 (.ite (ieq x 16)
 (.ret (ByteArray.mk #[114, 48, 48, 48, 112]))
 (.ite (ieq x 17)
 (.ret (ByteArray.mk #[114, 48, 48, 48, 112]))
 (.ite (ieq x 18)
 (.ret (ByteArray.mk #[114, 114, 103, 109, 48]))
 (.ite (ieq x 19)
 (.ret (ByteArray.mk #[114, 114, 103, 109, 100]))
 (.ite (ieq x 20)
 (.ret (ByteArray.mk #[48, 48, 103, 48, 48]))
 (.ite (ieq x 21)
 (.ret (ByteArray.mk #[114, 48, 48, 48, 48]))
 (.ite (ieq x 22)
 (.ret (ByteArray.mk #[114, 48, 48, 48, 48]))
 (.ite (ieq x 24)
 (.ret (ByteArray.mk #[114, 48, 48, 48, 48]))
 (.ite (ieq x 25)
 (.ret (ByteArray.mk #[48, 48, 48, 48, 48]))
 (.ret (ByteArray.mk #[]))))))))))))))))
theorem sd_r09_form (x : X_r09_form) : (tt_r09_form x).Sides :=
  (TT.s_ite TT.s_ret (TT.s_ite TT.s_ret (TT.s_ite TT.s_ret (TT.s_ite (TT.s_ite TT.s_ret (TT.s_ite TT.s_ret (TT.s_ite TT.s_ret (TT.s_ite TT.s_ret (TT.s_ite TT.s_ret (TT.s_ite TT.s_ret (TT.s_ite TT.s_ret (TT.s_ite TT.s_ret (TT.s_ite TT.s_ret (TT.s_ite TT.s_ret (TT.s_ite TT.s_ret TT.s_ret))))))))))) (TT.s_ite TT.s_ret (TT.s_ite TT.s_ret (TT.s_ite TT.s_ret (TT.s_ite TT.s_ret (TT.s_ite TT.s_ret (TT.s_ite TT.s_ret (TT.s_ite TT.s_ret (TT.s_ite TT.s_ret (TT.s_ite TT.s_ret (TT.s_ite TT.s_ret TT.s_ret))))))))))))))

noncomputable def D_r09_form : Dyn X_r09_form R_r09_form := .of tt_r09_form
noncomputable def con_r09_form : Con Tryz.prog :=
  mkCon 28 J_r09_form S_r09_form D_r09_form D_r09_form (fun _ _ h => h) 1 0 [.any] (by kernel_rfl) (by kernel_rfl) (by kernel_rfl) (lab_ok mixed_ok labs_nil 4000 (fun x => by kernel_rfl) sd_r09_form) rfl rfl (fun _ => rfl) (by kernel_rfl) rfl (fun _ => rfl) (fun x y _ => by kernel_rfl)

/-! rondeauref09.most (r09_most) -/
abbrev X_r09_most : Type := Int
abbrev R_r09_most : Type := Int
noncomputable def J_r09_most : Job Tryz.prog :=
  job Tryz.prog Tryz.f29 14 [] [] [] [] [.any] [] [] R_r09_most [] fun y => [(V.int .u64) y]
noncomputable def S_r09_most : LabS :=
  lab0 Tryz.f29 1 0 X_r09_most (fun x => [(V.int .u8) x]) fun l => (dI (at_ l 0))
noncomputable def tt_r09_most (x : X_r09_most) : TT Tryz.prog R_r09_most :=
 (.ite (ieq x 114)
 (.ret 7)
 (.ite (ieq x 103)
 (.ret 7)
 (.ite (ieq x 100)
 (.ret 7)
 (.ite (ieq x 109)
 (.ret 2)
 (.ite (ieq x 112)
 (.ret 256)
 (.ite (ieq x 110)
 (.ret 18446744073709551615)
 (.ret 0)))))))
theorem sd_r09_most (x : X_r09_most) : (tt_r09_most x).Sides :=
  (TT.s_ite TT.s_ret (TT.s_ite TT.s_ret (TT.s_ite TT.s_ret (TT.s_ite TT.s_ret (TT.s_ite TT.s_ret (TT.s_ite TT.s_ret TT.s_ret))))))

noncomputable def D_r09_most : Dyn X_r09_most R_r09_most := .of tt_r09_most
noncomputable def con_r09_most : Con Tryz.prog :=
  mkCon 29 J_r09_most S_r09_most D_r09_most D_r09_most (fun _ _ h => h) 1 0 [.any] (by kernel_rfl) (by kernel_rfl) (by kernel_rfl) (lab_ok mixed_ok labs_nil 4000 (fun x => by kernel_rfl) sd_r09_most) rfl rfl (fun _ => rfl) (by kernel_rfl) rfl (fun _ => rfl) (fun x y _ => by kernel_rfl)

abbrev Dsl_i64 : Type := (Sl Int)
def esl_i64 : Dsl_i64 → V := (eSl none 1 (V.int .i64))
def dsl_i64 : V → Dsl_i64 := (dSl dI)
def hsl_i64 : Sh := (.sl none 1 (V.int .i64 0))

/-! rondeauref09.Right (r09_Right) -/
abbrev X_r09_Right : Type := TApi_Instr
abbrev R_r09_Right : Type := Bool
noncomputable def J_r09_Right : Job Tryz.prog :=
  job Tryz.prog Tryz.f14 49 [(1, 3)] [] [] [] [.any] [] [con_r09_form, con_r09_most] R_r09_Right [] fun y => [V.bool y]
noncomputable def S_r09_Right : LabS :=
  lab0 Tryz.f14 1 0 X_r09_Right (fun x => [e_TApi_Instr x]) fun l => (d_TApi_Instr (at_ l 0))
structure X_r09_Right_4 where
  i_1 : TApi_Instr
  f_3 : ByteArray
noncomputable def S_r09_Right_4 : LabS :=
  labAt Tryz.f14 4 [(1, .any), (3, .any)] [] [] X_r09_Right_4 (fun x => [(eVp e_TApi_Instr) x.i_1, V.str x.f_3]) fun l => ⟨(dVp d_TApi_Instr) (at_ l 0), dS (at_ l 1)⟩
structure X_r09_Right_6 where
  f_3 : ByteArray
  l_4 : (Sl Int)
  k_5 : Int
noncomputable def S_r09_Right_6 : LabS :=
  labAt Tryz.f14 6 [(3, .any), (4, hsl_i64), (5, .any)] [] [] X_r09_Right_6 (fun x => [V.str x.f_3, esl_i64 x.l_4, (V.int .i64) x.k_5]) fun l => ⟨dS (at_ l 0), dsl_i64 (at_ l 1), dI (at_ l 2)⟩
structure X_r09_Right_7 where
  f_3 : ByteArray
  l_4 : (Sl Int)
  k_5 : Int
noncomputable def S_r09_Right_7 : LabS :=
  labAt Tryz.f14 7 [(3, .any), (4, hsl_i64), (5, .any)] [] [] X_r09_Right_7 (fun x => [V.str x.f_3, esl_i64 x.l_4, (V.int .i64) x.k_5]) fun l => ⟨dS (at_ l 0), dsl_i64 (at_ l 1), dI (at_ l 2)⟩
noncomputable def tt_r09_Right_7 (D_r09_Right_6 : Dyn X_r09_Right_6 R_r09_Right) (x : X_r09_Right_7) : TT Tryz.prog R_r09_Right :=
 (.jump S_r09_Right_6 D_r09_Right_6 (X_r09_Right_6.mk x.f_3 x.l_4 (IntKind.i64.wrap (x.k_5 + 1))))
theorem sd_r09_Right_7 (D_r09_Right_6 : Dyn X_r09_Right_6 R_r09_Right) (x : X_r09_Right_7) : (tt_r09_Right_7 D_r09_Right_6 x).Sides :=
  TT.s_jump

noncomputable def D_r09_Right_7 (D_r09_Right_6 : Dyn X_r09_Right_6 R_r09_Right) : Dyn X_r09_Right_7 R_r09_Right := .of (tt_r09_Right_7 D_r09_Right_6)
theorem ok_r09_Right_7 (D_r09_Right_6 : Dyn X_r09_Right_6 R_r09_Right) (h_6 : LabOK J_r09_Right S_r09_Right_6 D_r09_Right_6) : LabOK J_r09_Right S_r09_Right_7 (D_r09_Right_7 D_r09_Right_6) :=
  lab_ok mixed_ok (labs_cons2 h_6 rfl labs_nil) 4000 (fun x => by kernel_rfl) (sd_r09_Right_7 D_r09_Right_6)
noncomputable def tt_r09_Right_6 (D_r09_Right_6 : Dyn X_r09_Right_6 R_r09_Right) (x : X_r09_Right_6) : TT Tryz.prog R_r09_Right :=
 (.ite (ilt x.k_5 4)
 (.need (inb x.k_5 x.l_4.n) <|
 (.ite (ilt (x.l_4.get (Int.toNat x.k_5)) 0)
 (.ret false)
 (.need (inb x.k_5 x.l_4.n) <|
 (.need (inb x.k_5 (ByteArray.size x.f_3)) <|
 (.call con_r09_most (bt x.f_3 (Int.toNat x.k_5)) fun (y2 : R_r09_most) =>
 (.ite (ilt y2 (IntKind.u64.wrap (x.l_4.get (Int.toNat x.k_5))))
 (.ret false)
 (.jump S_r09_Right_7 (D_r09_Right_7 D_r09_Right_6) (X_r09_Right_7.mk x.f_3 x.l_4 x.k_5))))))))
 (.ret true))
theorem sd_r09_Right_6 (D_r09_Right_6 : Dyn X_r09_Right_6 R_r09_Right) (x : X_r09_Right_6) : (tt_r09_Right_6 D_r09_Right_6 x).Sides :=
  (TT.s_ite (TT.s_need (TT.s_ite TT.s_ret (TT.s_need (TT.s_need (TT.s_call fun _ => (TT.s_ite TT.s_ret TT.s_jump)))))) TT.s_ret)

noncomputable def D_r09_Right_6 : Dyn X_r09_Right_6 R_r09_Right := Dyn.loop tt_r09_Right_6
theorem ok_r09_Right_6 : LabOK J_r09_Right S_r09_Right_6 D_r09_Right_6 :=
  loop_ok fun D_r09_Right_6 h_6 => lab_ok mixed_ok (labs_cons2 h_6 rfl (labs_cons2 (ok_r09_Right_7 D_r09_Right_6 h_6) rfl labs_nil)) 4000 (fun x => by kernel_rfl) (sd_r09_Right_6 D_r09_Right_6)
noncomputable def tt_r09_Right_4 (x : X_r09_Right_4) : TT Tryz.prog R_r09_Right :=
 (.jump S_r09_Right_6 D_r09_Right_6 (X_r09_Right_6.mk x.f_3 (Sl.mk false 4 (fun i1 => (cond (Nat.beq i1 0) x.i_1.A (cond (Nat.beq i1 1) x.i_1.B (cond (Nat.beq i1 2) x.i_1.C x.i_1.D))))) 0))
theorem sd_r09_Right_4 (x : X_r09_Right_4) : (tt_r09_Right_4 x).Sides :=
  TT.s_jump

noncomputable def D_r09_Right_4 : Dyn X_r09_Right_4 R_r09_Right := .of tt_r09_Right_4
theorem ok_r09_Right_4 : LabOK J_r09_Right S_r09_Right_4 D_r09_Right_4 :=
  lab_ok mixed_ok (labs_cons2 ok_r09_Right_6 rfl labs_nil) 4000 (fun x => by kernel_rfl) sd_r09_Right_4
noncomputable def tt_r09_Right (x : X_r09_Right) : TT Tryz.prog R_r09_Right :=
 (.call con_r09_form x.Op fun (y1 : R_r09_form) =>
 (.ite (seq y1 (ByteArray.mk #[]))
 (.ret false)
 (.need (inb 4 (ByteArray.size y1)) <|
 (.call con_r09_most (bt y1 (Int.toNat 4)) fun (y2 : R_r09_most) =>
 (.ite (ilt y2 x.K)
 (.ret false)
 (.jump S_r09_Right_4 D_r09_Right_4 (X_r09_Right_4.mk x y1)))))))
theorem sd_r09_Right (x : X_r09_Right) : (tt_r09_Right x).Sides :=
  (TT.s_call fun _ => (TT.s_ite TT.s_ret (TT.s_need (TT.s_call fun _ => (TT.s_ite TT.s_ret TT.s_jump)))))

noncomputable def D_r09_Right : Dyn X_r09_Right R_r09_Right := .of tt_r09_Right
noncomputable def con_r09_Right : Con Tryz.prog :=
  mkCon 14 J_r09_Right S_r09_Right D_r09_Right D_r09_Right (fun _ _ h => h) 1 0 [.any] (by kernel_rfl) (by kernel_rfl) (by kernel_rfl) (lab_ok mixed_ok (labs_cons2 ok_r09_Right_6 rfl (labs_cons2 ok_r09_Right_4 rfl labs_nil)) 4000 (fun x => by kernel_rfl) sd_r09_Right) rfl rfl (fun _ => rfl) (by kernel_rfl) rfl (fun _ => rfl) (fun x y _ => by kernel_rfl)

/-! rondeauref09.Name (r09_Name) -/
abbrev X_r09_Name : Type := Int
abbrev R_r09_Name : Type := ByteArray
noncomputable def J_r09_Name : Job Tryz.prog :=
  job Tryz.prog Tryz.f30 16 [(11, 1)] [] [] [] [.any] [] [] R_r09_Name [] fun y => [V.str y]
noncomputable def S_r09_Name : LabS :=
  lab0 Tryz.f30 1 0 X_r09_Name (fun x => [(V.int .i64) x]) fun l => (dI (at_ l 0))
structure X_r09_Name_4 where
  op_0 : Int
  names_3 : (Sl ByteArray)
noncomputable def S_r09_Name_4 : LabS :=
  labAt Tryz.f30 4 [(0, .any), (3, hsl_str)] [] [] X_r09_Name_4 (fun x => [(V.int .i64) x.op_0, esl_str x.names_3]) fun l => ⟨dI (at_ l 0), dsl_str (at_ l 1)⟩
noncomputable def tt_r09_Name_4 (x : X_r09_Name_4) : TT Tryz.prog R_r09_Name :=
 (.need (inb (IntKind.i64.wrap (x.op_0 - 1)) x.names_3.n) <|
 (.ret (x.names_3.get (Int.toNat (IntKind.i64.wrap (x.op_0 - 1))))))
theorem sd_r09_Name_4 (x : X_r09_Name_4) : (tt_r09_Name_4 x).Sides :=
  (TT.s_need TT.s_ret)

noncomputable def D_r09_Name_4 : Dyn X_r09_Name_4 R_r09_Name := .of tt_r09_Name_4
theorem ok_r09_Name_4 : LabOK J_r09_Name S_r09_Name_4 D_r09_Name_4 :=
  lab_ok mixed_ok labs_nil 4000 (fun x => by kernel_rfl) sd_r09_Name_4
noncomputable def tt_r09_Name (x : X_r09_Name) : TT Tryz.prog R_r09_Name :=
 (.ite (ilt x 1)
 (.ret (ByteArray.mk #[]))
 (.ite (ilt 25 x)
 (.ret (ByteArray.mk #[]))
 (.jump S_r09_Name_4 D_r09_Name_4 (X_r09_Name_4.mk x (Sl.mk false 25 (fun i1 => (cond (Nat.beq i1 0) (ByteArray.mk #[115, 101, 116]) (cond (Nat.beq i1 1) (ByteArray.mk #[109, 111, 118]) (cond (Nat.beq i1 2) (ByteArray.mk #[97, 100, 100]) (cond (Nat.beq i1 3) (ByteArray.mk #[115, 117, 98]) (cond (Nat.beq i1 4) (ByteArray.mk #[109, 117, 108]) (cond (Nat.beq i1 5) (ByteArray.mk #[100, 105, 118]) (cond (Nat.beq i1 6) (ByteArray.mk #[109, 111, 100]) (cond (Nat.beq i1 7) (ByteArray.mk #[97, 110, 100]) (cond (Nat.beq i1 8) (ByteArray.mk #[111, 114]) (cond (Nat.beq i1 9) (ByteArray.mk #[120, 111, 114]) (cond (Nat.beq i1 10) (ByteArray.mk #[115, 104, 108]) (cond (Nat.beq i1 11) (ByteArray.mk #[115, 104, 114]) (cond (Nat.beq i1 12) (ByteArray.mk #[108, 116]) (cond (Nat.beq i1 13) (ByteArray.mk #[101, 113]) (cond (Nat.beq i1 14) (ByteArray.mk #[106, 109, 112]) (cond (Nat.beq i1 15) (ByteArray.mk #[106, 122]) (cond (Nat.beq i1 16) (ByteArray.mk #[106, 110, 122]) (cond (Nat.beq i1 17) (ByteArray.mk #[115, 101, 110, 100]) (cond (Nat.beq i1 18) (ByteArray.mk #[114, 101, 99, 118]) (cond (Nat.beq i1 19) (ByteArray.mk #[99, 108, 111, 115, 101]) (cond (Nat.beq i1 20) (ByteArray.mk #[99, 108, 111, 99, 107]) (cond (Nat.beq i1 21) (ByteArray.mk #[100, 114, 97, 119]) (cond (Nat.beq i1 22) (ByteArray.mk #[114, 101, 97, 100]) (cond (Nat.beq i1 23) (ByteArray.mk #[115, 101, 101]) (ByteArray.mk #[104, 97, 108, 116])))))))))))))))))))))))))))))))
theorem sd_r09_Name (x : X_r09_Name) : (tt_r09_Name x).Sides :=
  (TT.s_ite TT.s_ret (TT.s_ite TT.s_ret TT.s_jump))

noncomputable def D_r09_Name : Dyn X_r09_Name R_r09_Name := .of tt_r09_Name
noncomputable def con_r09_Name : Con Tryz.prog :=
  mkCon 30 J_r09_Name S_r09_Name D_r09_Name D_r09_Name (fun _ _ h => h) 1 0 [.any] (by kernel_rfl) (by kernel_rfl) (by kernel_rfl) (lab_ok mixed_ok (labs_cons2 ok_r09_Name_4 rfl labs_nil) 4000 (fun x => by kernel_rfl) sd_r09_Name) rfl rfl (fun _ => rfl) (by kernel_rfl) rfl (fun _ => rfl) (fun x y _ => by kernel_rfl)

/-! rondeauref10.names (r10_names) -/
abbrev X_r10_names : Type := Int
abbrev R_r10_names : Type := ByteArray
noncomputable def J_r10_names : Job Tryz.prog :=
  job Tryz.prog Tryz.f31 50 [] [] [] [] [.any] [] [] R_r10_names [] fun y => [V.str y]
noncomputable def S_r10_names : LabS :=
  lab0 Tryz.f31 1 0 X_r10_names (fun x => [(V.int .i64) x]) fun l => (dI (at_ l 0))
noncomputable def tt_r10_names (x : X_r10_names) : TT Tryz.prog R_r10_names :=
 (.ite (ieq x 1)
 (.ret (ByteArray.mk #[65, 75]))
 (.ite (ieq x 2)
 (.ret (ByteArray.mk #[65, 66]))
 (.ite (ieq x 23)
 (.ret (ByteArray.mk #[65, 66]))
 (.ite (ile 3 x)
 (.ite (ile x 14)
 (.ret (ByteArray.mk #[65, 66, 82]))
 (.ite (ieq x 15)
 (.ret (ByteArray.mk #[75]))
 (.ite (ieq x 16)
 (.ret (ByteArray.mk #[65, 75]))
 (.ite (ieq x 17)
 (.ret (ByteArray.mk #[65, 75]))
 (.ite (ieq x 18)
 (.ret (ByteArray.mk #[65, 66, 67, 68]))
 (.ite (ieq x 19)
 (.ret (ByteArray.mk #[65, 66, 67, 68, 75]))
 (.ite (ieq x 20)
 (.ret (ByteArray.mk #[67]))
 (.ite (ieq x 21)
 (.ret (ByteArray.mk #[65]))
 (.ite (ieq x 22)
 (.ret (ByteArray.mk #[65]))
 (.ite (ieq x 24)
 (.ret (ByteArray.mk #[65]))
 (.ret (ByteArray.mk #[]))))))))))))
 (.ite (ieq x 15)
 (.ret (ByteArray.mk #[75]))
 (.ite (ieq x 16)
 (.ret (ByteArray.mk #[65, 75]))
 (.ite (ieq x 17)
 (.ret (ByteArray.mk #[65, 75]))
 (.ite (ieq x 18)
 (.ret (ByteArray.mk #[65, 66, 67, 68]))
 (.ite (ieq x 19)
 (.ret (ByteArray.mk #[65, 66, 67, 68, 75]))
 (.ite (ieq x 20)
 (.ret (ByteArray.mk #[67]))
 (.ite (ieq x 21)
 (.ret (ByteArray.mk #[65]))
 (.ite (ieq x 22)
 (.ret (ByteArray.mk #[65]))
 (.ite (ieq x 24)
 (.ret (ByteArray.mk #[65]))
 (.ret (ByteArray.mk #[])))))))))))))))
theorem sd_r10_names (x : X_r10_names) : (tt_r10_names x).Sides :=
  (TT.s_ite TT.s_ret (TT.s_ite TT.s_ret (TT.s_ite TT.s_ret (TT.s_ite (TT.s_ite TT.s_ret (TT.s_ite TT.s_ret (TT.s_ite TT.s_ret (TT.s_ite TT.s_ret (TT.s_ite TT.s_ret (TT.s_ite TT.s_ret (TT.s_ite TT.s_ret (TT.s_ite TT.s_ret (TT.s_ite TT.s_ret (TT.s_ite TT.s_ret TT.s_ret)))))))))) (TT.s_ite TT.s_ret (TT.s_ite TT.s_ret (TT.s_ite TT.s_ret (TT.s_ite TT.s_ret (TT.s_ite TT.s_ret (TT.s_ite TT.s_ret (TT.s_ite TT.s_ret (TT.s_ite TT.s_ret (TT.s_ite TT.s_ret TT.s_ret)))))))))))))

noncomputable def D_r10_names : Dyn X_r10_names R_r10_names := .of tt_r10_names
noncomputable def con_r10_names : Con Tryz.prog :=
  mkCon 31 J_r10_names S_r10_names D_r10_names D_r10_names (fun _ _ h => h) 1 0 [.any] (by kernel_rfl) (by kernel_rfl) (by kernel_rfl) (lab_ok mixed_ok labs_nil 4000 (fun x => by kernel_rfl) sd_r10_names) rfl rfl (fun _ => rfl) (by kernel_rfl) rfl (fun _ => rfl) (fun x y _ => by kernel_rfl)

/-! rondeauref10.Number (r10_Number) -/
abbrev X_r10_Number : Type := Int
abbrev R_r10_Number : Type := ByteArray
noncomputable def J_r10_Number : Job Tryz.prog :=
  job Tryz.prog Tryz.f32 23 [] [] [] [] [.any] [] [] R_r10_Number [] fun y => [V.str y]
noncomputable def S_r10_Number : LabS :=
  lab0 Tryz.f32 1 0 X_r10_Number (fun x => [(V.int .u64) x]) fun l => (dI (at_ l 0))
structure X_r10_Number_2 where
  n_0 : Int
  out_3 : ByteArray
noncomputable def S_r10_Number_2 : LabS :=
  labAt Tryz.f32 2 [(0, .any), (3, .any)] [] [] X_r10_Number_2 (fun x => [(V.int .u64) x.n_0, V.str x.out_3]) fun l => ⟨dI (at_ l 0), dS (at_ l 1)⟩
structure X_r10_Number_5 where
  n_0 : Int
  out_3 : ByteArray
noncomputable def S_r10_Number_5 : LabS :=
  labAt Tryz.f32 5 [(0, .any), (3, .any)] [] [] X_r10_Number_5 (fun x => [(V.int .u64) x.n_0, V.str x.out_3]) fun l => ⟨dI (at_ l 0), dS (at_ l 1)⟩
noncomputable def tt_r10_Number_5 (x : X_r10_Number_5) : TT Tryz.prog R_r10_Number :=
 (.side (∀ i1 : Nat, ((i1 < (1 : Nat)) → (∃ m2 : Int, ((cond false (cond (Nat.beq 18 18) (V.int IntKind.u8 (IntKind.u8.wrap (IntKind.u64.wrap ((48 : Int) + x.n_0)))) (cond (Nat.beq 18 17) (V.int IntKind.u64 (IntKind.u64.wrap ((48 : Int) + x.n_0))) (cond (Nat.beq 18 16) (cond false (cond (Nat.beq 0 0) (V.int IntKind.u64 x.n_0) (cond (Nat.beq 0 3) (V.str x.out_3) V.undef)) (cond (Nat.beq 0 0) (V.int IntKind.u64 x.n_0) (cond (Nat.beq 0 3) (V.str x.out_3) V.undef))) (cond (Nat.beq 18 0) (V.int IntKind.u64 x.n_0) (cond (Nat.beq 18 3) (V.str x.out_3) V.undef))))) (cond (Nat.beq 18 18) (V.int IntKind.u8 (IntKind.u8.wrap (IntKind.u64.wrap ((48 : Int) + x.n_0)))) (cond (Nat.beq 18 17) (V.int IntKind.u64 (IntKind.u64.wrap ((48 : Int) + x.n_0))) (cond (Nat.beq 18 16) (cond false (cond (Nat.beq 0 0) (V.int IntKind.u64 x.n_0) (cond (Nat.beq 0 3) (V.str x.out_3) V.undef)) (cond (Nat.beq 0 0) (V.int IntKind.u64 x.n_0) (cond (Nat.beq 0 3) (V.str x.out_3) V.undef))) (cond (Nat.beq 18 0) (V.int IntKind.u64 x.n_0) (cond (Nat.beq 18 3) (V.str x.out_3) V.undef)))))) = (V.int IntKind.u8 m2))))) <|
 (.need (decide ((((ByteArray.size (bytesOf 1 (fun _i1 => (IntKind.u8.wrap (IntKind.u64.wrap ((48 : Int) + x.n_0)))))) + (ByteArray.size x.out_3)) ≤ (9223372036854775807 : Nat)))) <|
 (.ret ((bytesOf 1 (fun _i1 => (IntKind.u8.wrap (IntKind.u64.wrap ((48 : Int) + x.n_0))))) ++ x.out_3))))
theorem sd_r10_Number_5 (x : X_r10_Number_5) : (tt_r10_Number_5 x).Sides :=
  (TT.s_side (fun _ _ => ⟨_, rfl⟩) (TT.s_need TT.s_ret))

noncomputable def D_r10_Number_5 : Dyn X_r10_Number_5 R_r10_Number := .of tt_r10_Number_5
theorem ok_r10_Number_5 : LabOK J_r10_Number S_r10_Number_5 D_r10_Number_5 :=
  lab_ok mixed_ok labs_nil 4000 (fun x => by kernel_rfl) sd_r10_Number_5
noncomputable def tt_r10_Number_2 (D_r10_Number_2 : Dyn X_r10_Number_2 R_r10_Number) (x : X_r10_Number_2) : TT Tryz.prog R_r10_Number :=
 (.ite (ilt 9 x.n_0)
 (.side (∀ i2 : Nat, ((i2 < (1 : Nat)) → (∃ m3 : Int, ((cond false (cond (Nat.beq 9 9) (V.int IntKind.u8 (IntKind.u8.wrap (IntKind.u64.wrap ((48 : Int) + (Int.tmod x.n_0 10))))) (cond (Nat.beq 9 8) (V.int IntKind.u64 (IntKind.u64.wrap ((48 : Int) + (Int.tmod x.n_0 10)))) (cond (Nat.beq 9 7) (V.int IntKind.u64 (Int.tmod x.n_0 10)) (cond (Nat.beq 9 6) (cond false (cond (Nat.beq 0 5) (V.bool (ilt 9 x.n_0)) (cond (Nat.beq 0 4) (cond false (cond (Nat.beq 0 0) (V.int IntKind.u64 x.n_0) (cond (Nat.beq 0 3) (V.str x.out_3) V.undef)) (cond (Nat.beq 0 0) (V.int IntKind.u64 x.n_0) (cond (Nat.beq 0 3) (V.str x.out_3) V.undef))) (cond (Nat.beq 0 0) (V.int IntKind.u64 x.n_0) (cond (Nat.beq 0 3) (V.str x.out_3) V.undef)))) (cond (Nat.beq 0 5) (V.bool (ilt 9 x.n_0)) (cond (Nat.beq 0 4) (cond false (cond (Nat.beq 0 0) (V.int IntKind.u64 x.n_0) (cond (Nat.beq 0 3) (V.str x.out_3) V.undef)) (cond (Nat.beq 0 0) (V.int IntKind.u64 x.n_0) (cond (Nat.beq 0 3) (V.str x.out_3) V.undef))) (cond (Nat.beq 0 0) (V.int IntKind.u64 x.n_0) (cond (Nat.beq 0 3) (V.str x.out_3) V.undef))))) (cond (Nat.beq 9 5) (V.bool (ilt 9 x.n_0)) (cond (Nat.beq 9 4) (cond false (cond (Nat.beq 0 0) (V.int IntKind.u64 x.n_0) (cond (Nat.beq 0 3) (V.str x.out_3) V.undef)) (cond (Nat.beq 0 0) (V.int IntKind.u64 x.n_0) (cond (Nat.beq 0 3) (V.str x.out_3) V.undef))) (cond (Nat.beq 9 0) (V.int IntKind.u64 x.n_0) (cond (Nat.beq 9 3) (V.str x.out_3) V.undef)))))))) (cond (Nat.beq 9 9) (V.int IntKind.u8 (IntKind.u8.wrap (IntKind.u64.wrap ((48 : Int) + (Int.tmod x.n_0 10))))) (cond (Nat.beq 9 8) (V.int IntKind.u64 (IntKind.u64.wrap ((48 : Int) + (Int.tmod x.n_0 10)))) (cond (Nat.beq 9 7) (V.int IntKind.u64 (Int.tmod x.n_0 10)) (cond (Nat.beq 9 6) (cond false (cond (Nat.beq 0 5) (V.bool (ilt 9 x.n_0)) (cond (Nat.beq 0 4) (cond false (cond (Nat.beq 0 0) (V.int IntKind.u64 x.n_0) (cond (Nat.beq 0 3) (V.str x.out_3) V.undef)) (cond (Nat.beq 0 0) (V.int IntKind.u64 x.n_0) (cond (Nat.beq 0 3) (V.str x.out_3) V.undef))) (cond (Nat.beq 0 0) (V.int IntKind.u64 x.n_0) (cond (Nat.beq 0 3) (V.str x.out_3) V.undef)))) (cond (Nat.beq 0 5) (V.bool (ilt 9 x.n_0)) (cond (Nat.beq 0 4) (cond false (cond (Nat.beq 0 0) (V.int IntKind.u64 x.n_0) (cond (Nat.beq 0 3) (V.str x.out_3) V.undef)) (cond (Nat.beq 0 0) (V.int IntKind.u64 x.n_0) (cond (Nat.beq 0 3) (V.str x.out_3) V.undef))) (cond (Nat.beq 0 0) (V.int IntKind.u64 x.n_0) (cond (Nat.beq 0 3) (V.str x.out_3) V.undef))))) (cond (Nat.beq 9 5) (V.bool (ilt 9 x.n_0)) (cond (Nat.beq 9 4) (cond false (cond (Nat.beq 0 0) (V.int IntKind.u64 x.n_0) (cond (Nat.beq 0 3) (V.str x.out_3) V.undef)) (cond (Nat.beq 0 0) (V.int IntKind.u64 x.n_0) (cond (Nat.beq 0 3) (V.str x.out_3) V.undef))) (cond (Nat.beq 9 0) (V.int IntKind.u64 x.n_0) (cond (Nat.beq 9 3) (V.str x.out_3) V.undef))))))))) = (V.int IntKind.u8 m3))))) <|
 (.need (decide ((((ByteArray.size (bytesOf 1 (fun _i2 => (IntKind.u8.wrap (IntKind.u64.wrap ((48 : Int) + (Int.tmod x.n_0 10))))))) + (ByteArray.size x.out_3)) ≤ (9223372036854775807 : Nat)))) <|
 (.jump S_r10_Number_2 D_r10_Number_2 (X_r10_Number_2.mk (IntKind.u64.wrap (Int.tdiv x.n_0 10)) ((bytesOf 1 (fun _i2 => (IntKind.u8.wrap (IntKind.u64.wrap ((48 : Int) + (Int.tmod x.n_0 10)))))) ++ x.out_3)))))
 (.jump S_r10_Number_5 D_r10_Number_5 (X_r10_Number_5.mk x.n_0 x.out_3)))
theorem sd_r10_Number_2 (D_r10_Number_2 : Dyn X_r10_Number_2 R_r10_Number) (x : X_r10_Number_2) : (tt_r10_Number_2 D_r10_Number_2 x).Sides :=
  (TT.s_ite (TT.s_side (fun _ _ => ⟨_, rfl⟩) (TT.s_need TT.s_jump)) TT.s_jump)

noncomputable def D_r10_Number_2 : Dyn X_r10_Number_2 R_r10_Number := Dyn.loop tt_r10_Number_2
theorem ok_r10_Number_2 : LabOK J_r10_Number S_r10_Number_2 D_r10_Number_2 :=
  loop_ok fun D_r10_Number_2 h_2 => lab_ok mixed_ok (labs_cons2 h_2 rfl (labs_cons2 ok_r10_Number_5 rfl labs_nil)) 4000 (fun x => by kernel_rfl) (sd_r10_Number_2 D_r10_Number_2)
noncomputable def tt_r10_Number (x : X_r10_Number) : TT Tryz.prog R_r10_Number :=
 (.jump S_r10_Number_2 D_r10_Number_2 (X_r10_Number_2.mk x (ByteArray.mk #[])))
theorem sd_r10_Number (x : X_r10_Number) : (tt_r10_Number x).Sides :=
  TT.s_jump

noncomputable def D_r10_Number : Dyn X_r10_Number R_r10_Number := .of tt_r10_Number
noncomputable def con_r10_Number : Con Tryz.prog :=
  mkCon 32 J_r10_Number S_r10_Number D_r10_Number D_r10_Number (fun _ _ h => h) 1 0 [.any] (by kernel_rfl) (by kernel_rfl) (by kernel_rfl) (lab_ok mixed_ok (labs_cons2 ok_r10_Number_5 rfl (labs_cons2 ok_r10_Number_2 rfl labs_nil)) 4000 (fun x => by kernel_rfl) sd_r10_Number) rfl rfl (fun _ => rfl) (by kernel_rfl) rfl (fun _ => rfl) (fun x y _ => by kernel_rfl)

/-! rondeauref10.waits (r10_waits) -/
abbrev X_r10_waits : Type := Int
abbrev R_r10_waits : Type := ByteArray
noncomputable def J_r10_waits : Job Tryz.prog :=
  job Tryz.prog Tryz.f33 9 [(5, 1)] [] [] [] [.any] [] [] R_r10_waits [] fun y => [V.str y]
noncomputable def S_r10_waits : LabS :=
  lab0 Tryz.f33 1 0 X_r10_waits (fun x => [(V.int .i64) x]) fun l => (dI (at_ l 0))
noncomputable def tt_r10_waits (x : X_r10_waits) : TT Tryz.prog R_r10_waits :=
 (.need (inb x 3) <|
 (.ret (cond (Nat.beq (Int.toNat x) 0) (ByteArray.mk #[116, 114, 121]) (cond (Nat.beq (Int.toNat x) 1) (ByteArray.mk #[119, 97, 105, 116]) (ByteArray.mk #[116, 105, 109, 101, 100])))))
theorem sd_r10_waits (x : X_r10_waits) : (tt_r10_waits x).Sides :=
  (TT.s_need TT.s_ret)

noncomputable def D_r10_waits : Dyn X_r10_waits R_r10_waits := .of tt_r10_waits
noncomputable def con_r10_waits : Con Tryz.prog :=
  mkCon 33 J_r10_waits S_r10_waits D_r10_waits D_r10_waits (fun _ _ h => h) 1 0 [.any] (by kernel_rfl) (by kernel_rfl) (by kernel_rfl) (lab_ok mixed_ok labs_nil 4000 (fun x => by kernel_rfl) sd_r10_waits) rfl rfl (fun _ => rfl) (by kernel_rfl) rfl (fun _ => rfl) (fun x y _ => by kernel_rfl)

/-! rondeauref10.Line (r10_Line) -/
abbrev X_r10_Line : Type := TApi_Instr
abbrev R_r10_Line : Type := ByteArray
noncomputable def J_r10_Line : Job Tryz.prog :=
  job Tryz.prog Tryz.f15 73 [(1, 3)] [] [] [] [.any] [] [con_r09_Name, con_r10_Number, con_r10_names, con_r10_waits] R_r10_Line [] fun y => [V.str y]
noncomputable def S_r10_Line : LabS :=
  lab0 Tryz.f15 1 0 X_r10_Line (fun x => [e_TApi_Instr x]) fun l => (d_TApi_Instr (at_ l 0))
structure X_r10_Line_4 where
  i_1 : TApi_Instr
  s_3 : ByteArray
  f_4 : ByteArray
  k_5 : Int
noncomputable def S_r10_Line_4 : LabS :=
  labAt Tryz.f15 4 [(1, .any), (3, .any), (4, .any), (5, .any)] [] [] X_r10_Line_4 (fun x => [(eVp e_TApi_Instr) x.i_1, V.str x.s_3, V.str x.f_4, (V.int .i64) x.k_5]) fun l => ⟨(dVp d_TApi_Instr) (at_ l 0), dS (at_ l 1), dS (at_ l 2), dI (at_ l 3)⟩
structure X_r10_Line_5 where
  i_1 : TApi_Instr
  s_3 : ByteArray
  f_4 : ByteArray
  k_5 : Int
noncomputable def S_r10_Line_5 : LabS :=
  labAt Tryz.f15 5 [(1, .any), (3, .any), (4, .any), (5, .any)] [] [] X_r10_Line_5 (fun x => [(eVp e_TApi_Instr) x.i_1, V.str x.s_3, V.str x.f_4, (V.int .i64) x.k_5]) fun l => ⟨(dVp d_TApi_Instr) (at_ l 0), dS (at_ l 1), dS (at_ l 2), dI (at_ l 3)⟩
noncomputable def tt_r10_Line_5 (D_r10_Line_4 : Dyn X_r10_Line_4 R_r10_Line) (x : X_r10_Line_5) : TT Tryz.prog R_r10_Line :=
 (.jump S_r10_Line_4 D_r10_Line_4 (X_r10_Line_4.mk x.i_1 x.s_3 x.f_4 (IntKind.i64.wrap (x.k_5 + 1))))
theorem sd_r10_Line_5 (D_r10_Line_4 : Dyn X_r10_Line_4 R_r10_Line) (x : X_r10_Line_5) : (tt_r10_Line_5 D_r10_Line_4 x).Sides :=
  TT.s_jump

noncomputable def D_r10_Line_5 (D_r10_Line_4 : Dyn X_r10_Line_4 R_r10_Line) : Dyn X_r10_Line_5 R_r10_Line := .of (tt_r10_Line_5 D_r10_Line_4)
theorem ok_r10_Line_5 (D_r10_Line_4 : Dyn X_r10_Line_4 R_r10_Line) (h_4 : LabOK J_r10_Line S_r10_Line_4 D_r10_Line_4) : LabOK J_r10_Line S_r10_Line_5 (D_r10_Line_5 D_r10_Line_4) :=
  lab_ok mixed_ok (labs_cons2 h_4 rfl labs_nil) 4000 (fun x => by kernel_rfl) (sd_r10_Line_5 D_r10_Line_4)
noncomputable def tt_r10_Line_4 (D_r10_Line_4 : Dyn X_r10_Line_4 R_r10_Line) (x : X_r10_Line_4) : TT Tryz.prog R_r10_Line :=
 (.ite (ilt x.k_5 (((ByteArray.size x.f_4) : Nat) : Int))
 (.need (decide ((((ByteArray.size x.s_3) + (ByteArray.size (ByteArray.mk #[32]))) ≤ (9223372036854775807 : Nat)))) <|
 (.need (inb x.k_5 (ByteArray.size x.f_4)) <|
 (.ite (ieq (bt x.f_4 (Int.toNat x.k_5)) 65)
 (.call con_r10_Number (IntKind.u64.wrap x.i_1.A) fun (y2 : R_r10_Number) =>
 (.need (decide ((((ByteArray.size (ByteArray.mk #[114])) + (ByteArray.size y2)) ≤ (9223372036854775807 : Nat)))) <|
 (.need (decide ((((ByteArray.size (x.s_3 ++ (ByteArray.mk #[32]))) + (ByteArray.size ((ByteArray.mk #[114]) ++ y2))) ≤ (9223372036854775807 : Nat)))) <|
 (.jump S_r10_Line_5 (D_r10_Line_5 D_r10_Line_4) (X_r10_Line_5.mk x.i_1 ((x.s_3 ++ (ByteArray.mk #[32])) ++ ((ByteArray.mk #[114]) ++ y2)) x.f_4 x.k_5)))))
 (.ite (ieq (bt x.f_4 (Int.toNat x.k_5)) 66)
 (.call con_r10_Number (IntKind.u64.wrap x.i_1.B) fun (y2 : R_r10_Number) =>
 (.need (decide ((((ByteArray.size (ByteArray.mk #[114])) + (ByteArray.size y2)) ≤ (9223372036854775807 : Nat)))) <|
 (.need (decide ((((ByteArray.size (x.s_3 ++ (ByteArray.mk #[32]))) + (ByteArray.size ((ByteArray.mk #[114]) ++ y2))) ≤ (9223372036854775807 : Nat)))) <|
 (.jump S_r10_Line_5 (D_r10_Line_5 D_r10_Line_4) (X_r10_Line_5.mk x.i_1 ((x.s_3 ++ (ByteArray.mk #[32])) ++ ((ByteArray.mk #[114]) ++ y2)) x.f_4 x.k_5)))))
 (.ite (ieq (bt x.f_4 (Int.toNat x.k_5)) 82)
 (.call con_r10_Number (IntKind.u64.wrap x.i_1.C) fun (y2 : R_r10_Number) =>
 (.need (decide ((((ByteArray.size (ByteArray.mk #[114])) + (ByteArray.size y2)) ≤ (9223372036854775807 : Nat)))) <|
 (.need (decide ((((ByteArray.size (x.s_3 ++ (ByteArray.mk #[32]))) + (ByteArray.size ((ByteArray.mk #[114]) ++ y2))) ≤ (9223372036854775807 : Nat)))) <|
 (.jump S_r10_Line_5 (D_r10_Line_5 D_r10_Line_4) (X_r10_Line_5.mk x.i_1 ((x.s_3 ++ (ByteArray.mk #[32])) ++ ((ByteArray.mk #[114]) ++ y2)) x.f_4 x.k_5)))))
 (.ite (ieq (bt x.f_4 (Int.toNat x.k_5)) 67)
 (.call con_r10_Number (IntKind.u64.wrap x.i_1.C) fun (y2 : R_r10_Number) =>
 (.need (decide ((((ByteArray.size (x.s_3 ++ (ByteArray.mk #[32]))) + (ByteArray.size y2)) ≤ (9223372036854775807 : Nat)))) <|
 (.jump S_r10_Line_5 (D_r10_Line_5 D_r10_Line_4) (X_r10_Line_5.mk x.i_1 ((x.s_3 ++ (ByteArray.mk #[32])) ++ y2) x.f_4 x.k_5))))
 (.ite (ieq (bt x.f_4 (Int.toNat x.k_5)) 68)
 (.call con_r10_waits x.i_1.D fun (y2 : R_r10_waits) =>
 (.need (decide ((((ByteArray.size (x.s_3 ++ (ByteArray.mk #[32]))) + (ByteArray.size y2)) ≤ (9223372036854775807 : Nat)))) <|
 (.jump S_r10_Line_5 (D_r10_Line_5 D_r10_Line_4) (X_r10_Line_5.mk x.i_1 ((x.s_3 ++ (ByteArray.mk #[32])) ++ y2) x.f_4 x.k_5))))
 (.ite (ieq (bt x.f_4 (Int.toNat x.k_5)) 75)
 (.call con_r10_Number x.i_1.K fun (y2 : R_r10_Number) =>
 (.need (decide ((((ByteArray.size (x.s_3 ++ (ByteArray.mk #[32]))) + (ByteArray.size y2)) ≤ (9223372036854775807 : Nat)))) <|
 (.jump S_r10_Line_5 (D_r10_Line_5 D_r10_Line_4) (X_r10_Line_5.mk x.i_1 ((x.s_3 ++ (ByteArray.mk #[32])) ++ y2) x.f_4 x.k_5))))
 (.jump S_r10_Line_5 (D_r10_Line_5 D_r10_Line_4) (X_r10_Line_5.mk x.i_1 (x.s_3 ++ (ByteArray.mk #[32])) x.f_4 x.k_5))))))))))
 (.ret x.s_3))
theorem sd_r10_Line_4 (D_r10_Line_4 : Dyn X_r10_Line_4 R_r10_Line) (x : X_r10_Line_4) : (tt_r10_Line_4 D_r10_Line_4 x).Sides :=
  (TT.s_ite (TT.s_need (TT.s_need (TT.s_ite (TT.s_call fun _ => (TT.s_need (TT.s_need TT.s_jump))) (TT.s_ite (TT.s_call fun _ => (TT.s_need (TT.s_need TT.s_jump))) (TT.s_ite (TT.s_call fun _ => (TT.s_need (TT.s_need TT.s_jump))) (TT.s_ite (TT.s_call fun _ => (TT.s_need TT.s_jump)) (TT.s_ite (TT.s_call fun _ => (TT.s_need TT.s_jump)) (TT.s_ite (TT.s_call fun _ => (TT.s_need TT.s_jump)) TT.s_jump)))))))) TT.s_ret)

noncomputable def D_r10_Line_4 : Dyn X_r10_Line_4 R_r10_Line := Dyn.loop tt_r10_Line_4
theorem ok_r10_Line_4 : LabOK J_r10_Line S_r10_Line_4 D_r10_Line_4 :=
  loop_ok fun D_r10_Line_4 h_4 => lab_ok mixed_ok (labs_cons2 h_4 rfl (labs_cons2 (ok_r10_Line_5 D_r10_Line_4 h_4) rfl labs_nil)) 4000 (fun x => by kernel_rfl) (sd_r10_Line_4 D_r10_Line_4)
noncomputable def tt_r10_Line (x : X_r10_Line) : TT Tryz.prog R_r10_Line :=
 (.call con_r09_Name x.Op fun (y1 : R_r09_Name) =>
 (.call con_r10_names x.Op fun (y2 : R_r10_names) =>
 (.jump S_r10_Line_4 D_r10_Line_4 (X_r10_Line_4.mk x y1 y2 0))))
theorem sd_r10_Line (x : X_r10_Line) : (tt_r10_Line x).Sides :=
  (TT.s_call fun _ => (TT.s_call fun _ => TT.s_jump))

noncomputable def D_r10_Line : Dyn X_r10_Line R_r10_Line := .of tt_r10_Line
noncomputable def con_r10_Line : Con Tryz.prog :=
  mkCon 15 J_r10_Line S_r10_Line D_r10_Line D_r10_Line (fun _ _ h => h) 1 0 [.any] (by kernel_rfl) (by kernel_rfl) (by kernel_rfl) (lab_ok mixed_ok (labs_cons2 ok_r10_Line_4 rfl labs_nil) 4000 (fun x => by kernel_rfl) sd_r10_Line) rfl rfl (fun _ => rfl) (by kernel_rfl) rfl (fun _ => rfl) (fun x y _ => by kernel_rfl)

/-! rondeauref10.Ring (r10_Ring) -/
abbrev X_r10_Ring : Type := TApi_Ring
abbrev R_r10_Ring : Type := ByteArray
noncomputable def J_r10_Ring : Job Tryz.prog :=
  job Tryz.prog Tryz.f34 48 [(1, 3)] [] [] [] [.any] [] [con_r10_Number] R_r10_Ring [] fun y => [V.str y]
noncomputable def S_r10_Ring : LabS :=
  lab0 Tryz.f34 1 0 X_r10_Ring (fun x => [e_TApi_Ring x]) fun l => (d_TApi_Ring (at_ l 0))
structure X_r10_Ring_3 where
  r_1 : TApi_Ring
noncomputable def S_r10_Ring_3 : LabS :=
  labAt Tryz.f34 3 [(1, .any)] [] [] X_r10_Ring_3 (fun x => [(eVp e_TApi_Ring) x.r_1]) fun l => ⟨(dVp d_TApi_Ring) (at_ l 0)⟩
structure X_r10_Ring_5 where
  r_1 : TApi_Ring
noncomputable def S_r10_Ring_5 : LabS :=
  labAt Tryz.f34 5 [(1, .any)] [] [] X_r10_Ring_5 (fun x => [(eVp e_TApi_Ring) x.r_1]) fun l => ⟨(dVp d_TApi_Ring) (at_ l 0)⟩
noncomputable def tt_r10_Ring_5 (x : X_r10_Ring_5) : TT Tryz.prog R_r10_Ring :=
 (.ite (ieq x.r_1.Kind 2)
 (.call con_r10_Number (IntKind.u64.wrap x.r_1.Cap) fun (y1 : R_r10_Number) =>
 (.need (decide ((((ByteArray.size (ByteArray.mk #[99, 97, 115, 116, 32])) + (ByteArray.size y1)) ≤ (9223372036854775807 : Nat)))) <|
 (.need (decide ((((ByteArray.size ((ByteArray.mk #[99, 97, 115, 116, 32]) ++ y1)) + (ByteArray.size (ByteArray.mk #[32]))) ≤ (9223372036854775807 : Nat)))) <|
 (.call con_r10_Number (IntKind.u64.wrap x.r_1.Readers) fun (y2 : R_r10_Number) =>
 (.need (decide ((((ByteArray.size (((ByteArray.mk #[99, 97, 115, 116, 32]) ++ y1) ++ (ByteArray.mk #[32]))) + (ByteArray.size y2)) ≤ (9223372036854775807 : Nat)))) <|
 (.ret ((((ByteArray.mk #[99, 97, 115, 116, 32]) ++ y1) ++ (ByteArray.mk #[32])) ++ y2)))))))
 (.ret (ByteArray.mk #[])))
theorem sd_r10_Ring_5 (x : X_r10_Ring_5) : (tt_r10_Ring_5 x).Sides :=
  (TT.s_ite (TT.s_call fun _ => (TT.s_need (TT.s_need (TT.s_call fun _ => (TT.s_need TT.s_ret))))) TT.s_ret)

noncomputable def D_r10_Ring_5 : Dyn X_r10_Ring_5 R_r10_Ring := .of tt_r10_Ring_5
theorem ok_r10_Ring_5 : LabOK J_r10_Ring S_r10_Ring_5 D_r10_Ring_5 :=
  lab_ok mixed_ok labs_nil 4000 (fun x => by kernel_rfl) sd_r10_Ring_5
noncomputable def tt_r10_Ring_3 (x : X_r10_Ring_3) : TT Tryz.prog R_r10_Ring :=
 (.ite (ieq x.r_1.Kind 1)
 (.ite (ieq x.r_1.Readers 1)
 (.call con_r10_Number (IntKind.u64.wrap x.r_1.Cap) fun (y1 : R_r10_Number) =>
 (.need (decide ((((ByteArray.size (ByteArray.mk #[113, 117, 101, 117, 101, 32])) + (ByteArray.size y1)) ≤ (9223372036854775807 : Nat)))) <|
 (.ret ((ByteArray.mk #[113, 117, 101, 117, 101, 32]) ++ y1))))
 (.jump S_r10_Ring_5 D_r10_Ring_5 (X_r10_Ring_5.mk x.r_1)))
 (.jump S_r10_Ring_5 D_r10_Ring_5 (X_r10_Ring_5.mk x.r_1)))
theorem sd_r10_Ring_3 (x : X_r10_Ring_3) : (tt_r10_Ring_3 x).Sides :=
  (TT.s_ite (TT.s_ite (TT.s_call fun _ => (TT.s_need TT.s_ret)) TT.s_jump) TT.s_jump)

noncomputable def D_r10_Ring_3 : Dyn X_r10_Ring_3 R_r10_Ring := .of tt_r10_Ring_3
theorem ok_r10_Ring_3 : LabOK J_r10_Ring S_r10_Ring_3 D_r10_Ring_3 :=
  lab_ok mixed_ok (labs_cons2 ok_r10_Ring_5 rfl labs_nil) 4000 (fun x => by kernel_rfl) sd_r10_Ring_3
noncomputable def tt_r10_Ring (x : X_r10_Ring) : TT Tryz.prog R_r10_Ring :=
 (.ite (ilt x.Cap 0)
 (.ret (ByteArray.mk #[]))
 (.ite (ilt 255 x.Cap)
 (.ret (ByteArray.mk #[]))
 (.ite (ilt x.Readers 0)
 (.ret (ByteArray.mk #[]))
 (.ite (ilt 255 x.Readers)
 (.ret (ByteArray.mk #[]))
 (.jump S_r10_Ring_3 D_r10_Ring_3 (X_r10_Ring_3.mk x))))))
theorem sd_r10_Ring (x : X_r10_Ring) : (tt_r10_Ring x).Sides :=
  (TT.s_ite TT.s_ret (TT.s_ite TT.s_ret (TT.s_ite TT.s_ret (TT.s_ite TT.s_ret TT.s_jump))))

noncomputable def D_r10_Ring : Dyn X_r10_Ring R_r10_Ring := .of tt_r10_Ring
noncomputable def con_r10_Ring : Con Tryz.prog :=
  mkCon 34 J_r10_Ring S_r10_Ring D_r10_Ring D_r10_Ring (fun _ _ h => h) 1 0 [.any] (by kernel_rfl) (by kernel_rfl) (by kernel_rfl) (lab_ok mixed_ok (labs_cons2 ok_r10_Ring_5 rfl (labs_cons2 ok_r10_Ring_3 rfl labs_nil)) 4000 (fun x => by kernel_rfl) sd_r10_Ring) rfl rfl (fun _ => rfl) (by kernel_rfl) rfl (fun _ => rfl) (fun x y _ => by kernel_rfl)

/-! rondeauref09.Written (r09_Written) -/
abbrev X_r09_Written : Type := TApi_Program
abbrev R_r09_Written : Type := Bool
noncomputable def J_r09_Written : Job Tryz.prog :=
  job Tryz.prog Tryz.f35 91 [(1, 3)] [] [] [] [.any] [] [con_r09_Right] R_r09_Written [] fun y => [V.bool y]
noncomputable def S_r09_Written : LabS :=
  lab0 Tryz.f35 1 0 X_r09_Written (fun x => [e_TApi_Program x]) fun l => (d_TApi_Program (at_ l 0))
structure X_r09_Written_3 where
  p_1 : TApi_Program
noncomputable def S_r09_Written_3 : LabS :=
  labAt Tryz.f35 3 [(1, .any)] [] [] X_r09_Written_3 (fun x => [(eVp e_TApi_Program) x.p_1]) fun l => ⟨(dVp d_TApi_Program) (at_ l 0)⟩
structure X_r09_Written_4 where
  p_1 : TApi_Program
  i_3 : Int
noncomputable def S_r09_Written_4 : LabS :=
  labAt Tryz.f35 4 [(1, .any), (3, .any)] [] [] X_r09_Written_4 (fun x => [(eVp e_TApi_Program) x.p_1, (V.int .i64) x.i_3]) fun l => ⟨(dVp d_TApi_Program) (at_ l 0), dI (at_ l 1)⟩
structure X_r09_Written_5 where
  p_1 : TApi_Program
  i_3 : Int
noncomputable def S_r09_Written_5 : LabS :=
  labAt Tryz.f35 5 [(1, .any), (3, .any)] [] [] X_r09_Written_5 (fun x => [(eVp e_TApi_Program) x.p_1, (V.int .i64) x.i_3]) fun l => ⟨(dVp d_TApi_Program) (at_ l 0), dI (at_ l 1)⟩
structure X_r09_Written_9 where
  p_1 : TApi_Program
noncomputable def S_r09_Written_9 : LabS :=
  labAt Tryz.f35 9 [(1, .any)] [] [] X_r09_Written_9 (fun x => [(eVp e_TApi_Program) x.p_1]) fun l => ⟨(dVp d_TApi_Program) (at_ l 0)⟩
structure X_r09_Written_10 where
  p_1 : TApi_Program
  i_5 : Int
noncomputable def S_r09_Written_10 : LabS :=
  labAt Tryz.f35 10 [(1, .any), (5, .any)] [] [] X_r09_Written_10 (fun x => [(eVp e_TApi_Program) x.p_1, (V.int .i64) x.i_5]) fun l => ⟨(dVp d_TApi_Program) (at_ l 0), dI (at_ l 1)⟩
structure X_r09_Written_11 where
  p_1 : TApi_Program
  i_5 : Int
noncomputable def S_r09_Written_11 : LabS :=
  labAt Tryz.f35 11 [(1, .any), (5, .any)] [] [] X_r09_Written_11 (fun x => [(eVp e_TApi_Program) x.p_1, (V.int .i64) x.i_5]) fun l => ⟨(dVp d_TApi_Program) (at_ l 0), dI (at_ l 1)⟩
structure X_r09_Written_15 where
  p_1 : TApi_Program
  i_5 : Int
  k_6 : Int
noncomputable def S_r09_Written_15 : LabS :=
  labAt Tryz.f35 15 [(1, .any), (5, .any), (6, .any)] [] [] X_r09_Written_15 (fun x => [(eVp e_TApi_Program) x.p_1, (V.int .i64) x.i_5, (V.int .i64) x.k_6]) fun l => ⟨(dVp d_TApi_Program) (at_ l 0), dI (at_ l 1), dI (at_ l 2)⟩
noncomputable def tt_r09_Written_11 (D_r09_Written_10 : Dyn X_r09_Written_10 R_r09_Written) (x : X_r09_Written_11) : TT Tryz.prog R_r09_Written :=
 (.jump S_r09_Written_10 D_r09_Written_10 (X_r09_Written_10.mk x.p_1 (IntKind.i64.wrap (x.i_5 + 1))))
theorem sd_r09_Written_11 (D_r09_Written_10 : Dyn X_r09_Written_10 R_r09_Written) (x : X_r09_Written_11) : (tt_r09_Written_11 D_r09_Written_10 x).Sides :=
  TT.s_jump

noncomputable def D_r09_Written_11 (D_r09_Written_10 : Dyn X_r09_Written_10 R_r09_Written) : Dyn X_r09_Written_11 R_r09_Written := .of (tt_r09_Written_11 D_r09_Written_10)
theorem ok_r09_Written_11 (D_r09_Written_10 : Dyn X_r09_Written_10 R_r09_Written) (h_10 : LabOK J_r09_Written S_r09_Written_10 D_r09_Written_10) : LabOK J_r09_Written S_r09_Written_11 (D_r09_Written_11 D_r09_Written_10) :=
  lab_ok mixed_ok (labs_cons2 h_10 rfl labs_nil) 4000 (fun x => by kernel_rfl) (sd_r09_Written_11 D_r09_Written_10)
noncomputable def tt_r09_Written_15 (D_r09_Written_10 : Dyn X_r09_Written_10 R_r09_Written) (D_r09_Written_15 : Dyn X_r09_Written_15 R_r09_Written) (x : X_r09_Written_15) : TT Tryz.prog R_r09_Written :=
 (.need (inb x.i_5 x.p_1.Threads.n) <|
 (.ite (ilt x.k_6 (((x.p_1.Threads.get (Int.toNat x.i_5)).n : Nat) : Int))
 (.need (inb x.i_5 x.p_1.Threads.n) <|
 (.need (inb x.k_6 (x.p_1.Threads.get (Int.toNat x.i_5)).n) <|
 (.call con_r09_Right ((x.p_1.Threads.get (Int.toNat x.i_5)).get (Int.toNat x.k_6)) fun (y3 : R_r09_Right) =>
 (.ite (!y3)
 (.ret false)
 (.jump S_r09_Written_15 D_r09_Written_15 (X_r09_Written_15.mk x.p_1 x.i_5 (IntKind.i64.wrap (x.k_6 + 1))))))))
 (.jump S_r09_Written_11 (D_r09_Written_11 D_r09_Written_10) (X_r09_Written_11.mk x.p_1 x.i_5))))
theorem sd_r09_Written_15 (D_r09_Written_10 : Dyn X_r09_Written_10 R_r09_Written) (D_r09_Written_15 : Dyn X_r09_Written_15 R_r09_Written) (x : X_r09_Written_15) : (tt_r09_Written_15 D_r09_Written_10 D_r09_Written_15 x).Sides :=
  (TT.s_need (TT.s_ite (TT.s_need (TT.s_need (TT.s_call fun _ => (TT.s_ite TT.s_ret TT.s_jump)))) TT.s_jump))

noncomputable def D_r09_Written_15 (D_r09_Written_10 : Dyn X_r09_Written_10 R_r09_Written) : Dyn X_r09_Written_15 R_r09_Written := Dyn.loop (tt_r09_Written_15 D_r09_Written_10)
theorem ok_r09_Written_15 (D_r09_Written_10 : Dyn X_r09_Written_10 R_r09_Written) (h_10 : LabOK J_r09_Written S_r09_Written_10 D_r09_Written_10) : LabOK J_r09_Written S_r09_Written_15 (D_r09_Written_15 D_r09_Written_10) :=
  loop_ok fun D_r09_Written_15 h_15 => lab_ok mixed_ok (labs_cons2 h_10 rfl (labs_cons2 h_15 rfl (labs_cons2 (ok_r09_Written_11 D_r09_Written_10 h_10) rfl labs_nil))) 4000 (fun x => by kernel_rfl) (sd_r09_Written_15 D_r09_Written_10 D_r09_Written_15)
noncomputable def tt_r09_Written_10 (D_r09_Written_10 : Dyn X_r09_Written_10 R_r09_Written) (x : X_r09_Written_10) : TT Tryz.prog R_r09_Written :=
 (.ite (ilt x.i_5 ((x.p_1.Threads.n : Nat) : Int))
 (.need (inb x.i_5 x.p_1.Threads.n) <|
 (.ite (ilt 256 (((x.p_1.Threads.get (Int.toNat x.i_5)).n : Nat) : Int))
 (.ret false)
 (.jump S_r09_Written_15 (D_r09_Written_15 D_r09_Written_10) (X_r09_Written_15.mk x.p_1 x.i_5 0))))
 (.ret true))
theorem sd_r09_Written_10 (D_r09_Written_10 : Dyn X_r09_Written_10 R_r09_Written) (x : X_r09_Written_10) : (tt_r09_Written_10 D_r09_Written_10 x).Sides :=
  (TT.s_ite (TT.s_need (TT.s_ite TT.s_ret TT.s_jump)) TT.s_ret)

noncomputable def D_r09_Written_10 : Dyn X_r09_Written_10 R_r09_Written := Dyn.loop tt_r09_Written_10
theorem ok_r09_Written_10 : LabOK J_r09_Written S_r09_Written_10 D_r09_Written_10 :=
  loop_ok fun D_r09_Written_10 h_10 => lab_ok mixed_ok (labs_cons2 h_10 rfl (labs_cons2 (ok_r09_Written_11 D_r09_Written_10 h_10) rfl (labs_cons2 (ok_r09_Written_15 D_r09_Written_10 h_10) rfl labs_nil))) 4000 (fun x => by kernel_rfl) (sd_r09_Written_10 D_r09_Written_10)
noncomputable def tt_r09_Written_9 (x : X_r09_Written_9) : TT Tryz.prog R_r09_Written :=
 (.jump S_r09_Written_10 D_r09_Written_10 (X_r09_Written_10.mk x.p_1 0))
theorem sd_r09_Written_9 (x : X_r09_Written_9) : (tt_r09_Written_9 x).Sides :=
  TT.s_jump

noncomputable def D_r09_Written_9 : Dyn X_r09_Written_9 R_r09_Written := .of tt_r09_Written_9
theorem ok_r09_Written_9 : LabOK J_r09_Written S_r09_Written_9 D_r09_Written_9 :=
  lab_ok mixed_ok (labs_cons2 ok_r09_Written_10 rfl labs_nil) 4000 (fun x => by kernel_rfl) sd_r09_Written_9
noncomputable def tt_r09_Written_5 (D_r09_Written_4 : Dyn X_r09_Written_4 R_r09_Written) (x : X_r09_Written_5) : TT Tryz.prog R_r09_Written :=
 (.jump S_r09_Written_4 D_r09_Written_4 (X_r09_Written_4.mk x.p_1 (IntKind.i64.wrap (x.i_3 + 1))))
theorem sd_r09_Written_5 (D_r09_Written_4 : Dyn X_r09_Written_4 R_r09_Written) (x : X_r09_Written_5) : (tt_r09_Written_5 D_r09_Written_4 x).Sides :=
  TT.s_jump

noncomputable def D_r09_Written_5 (D_r09_Written_4 : Dyn X_r09_Written_4 R_r09_Written) : Dyn X_r09_Written_5 R_r09_Written := .of (tt_r09_Written_5 D_r09_Written_4)
theorem ok_r09_Written_5 (D_r09_Written_4 : Dyn X_r09_Written_4 R_r09_Written) (h_4 : LabOK J_r09_Written S_r09_Written_4 D_r09_Written_4) : LabOK J_r09_Written S_r09_Written_5 (D_r09_Written_5 D_r09_Written_4) :=
  lab_ok mixed_ok (labs_cons2 h_4 rfl (labs_cons2 ok_r09_Written_10 rfl (labs_cons2 ok_r09_Written_9 rfl labs_nil))) 4000 (fun x => by kernel_rfl) (sd_r09_Written_5 D_r09_Written_4)
noncomputable def tt_r09_Written_4 (D_r09_Written_4 : Dyn X_r09_Written_4 R_r09_Written) (x : X_r09_Written_4) : TT Tryz.prog R_r09_Written :=
 (.ite (ilt x.i_3 ((x.p_1.Rings.n : Nat) : Int))
 (.need (inb x.i_3 x.p_1.Rings.n) <|
 (.ite (ilt (x.p_1.Rings.get (Int.toNat x.i_3)).Kind 0)
 (.ret false)
 (.ite (ilt 255 (x.p_1.Rings.get (Int.toNat x.i_3)).Kind)
 (.ret false)
 (.ite (ilt (x.p_1.Rings.get (Int.toNat x.i_3)).Cap 0)
 (.ret false)
 (.ite (ilt 255 (x.p_1.Rings.get (Int.toNat x.i_3)).Cap)
 (.ret false)
 (.ite (ilt (x.p_1.Rings.get (Int.toNat x.i_3)).Readers 0)
 (.ret false)
 (.ite (ilt 255 (x.p_1.Rings.get (Int.toNat x.i_3)).Readers)
 (.ret false)
 (.jump S_r09_Written_5 (D_r09_Written_5 D_r09_Written_4) (X_r09_Written_5.mk x.p_1 x.i_3)))))))))
 (.jump S_r09_Written_9 D_r09_Written_9 (X_r09_Written_9.mk x.p_1)))
theorem sd_r09_Written_4 (D_r09_Written_4 : Dyn X_r09_Written_4 R_r09_Written) (x : X_r09_Written_4) : (tt_r09_Written_4 D_r09_Written_4 x).Sides :=
  (TT.s_ite (TT.s_need (TT.s_ite TT.s_ret (TT.s_ite TT.s_ret (TT.s_ite TT.s_ret (TT.s_ite TT.s_ret (TT.s_ite TT.s_ret (TT.s_ite TT.s_ret TT.s_jump))))))) TT.s_jump)

noncomputable def D_r09_Written_4 : Dyn X_r09_Written_4 R_r09_Written := Dyn.loop tt_r09_Written_4
theorem ok_r09_Written_4 : LabOK J_r09_Written S_r09_Written_4 D_r09_Written_4 :=
  loop_ok fun D_r09_Written_4 h_4 => lab_ok mixed_ok (labs_cons2 h_4 rfl (labs_cons2 ok_r09_Written_10 rfl (labs_cons2 ok_r09_Written_9 rfl (labs_cons2 (ok_r09_Written_5 D_r09_Written_4 h_4) rfl labs_nil)))) 4000 (fun x => by kernel_rfl) (sd_r09_Written_4 D_r09_Written_4)
noncomputable def tt_r09_Written_3 (x : X_r09_Written_3) : TT Tryz.prog R_r09_Written :=
 (.jump S_r09_Written_4 D_r09_Written_4 (X_r09_Written_4.mk x.p_1 0))
theorem sd_r09_Written_3 (x : X_r09_Written_3) : (tt_r09_Written_3 x).Sides :=
  TT.s_jump

noncomputable def D_r09_Written_3 : Dyn X_r09_Written_3 R_r09_Written := .of tt_r09_Written_3
theorem ok_r09_Written_3 : LabOK J_r09_Written S_r09_Written_3 D_r09_Written_3 :=
  lab_ok mixed_ok (labs_cons2 ok_r09_Written_10 rfl (labs_cons2 ok_r09_Written_9 rfl (labs_cons2 ok_r09_Written_4 rfl labs_nil))) 4000 (fun x => by kernel_rfl) sd_r09_Written_3
noncomputable def tt_r09_Written (x : X_r09_Written) : TT Tryz.prog R_r09_Written :=
 (.ite (ilt 8 ((x.Rings.n : Nat) : Int))
 (.ret false)
 (.ite (ilt 8 ((x.Threads.n : Nat) : Int))
 (.ret false)
 (.jump S_r09_Written_3 D_r09_Written_3 (X_r09_Written_3.mk x))))
theorem sd_r09_Written (x : X_r09_Written) : (tt_r09_Written x).Sides :=
  (TT.s_ite TT.s_ret (TT.s_ite TT.s_ret TT.s_jump))

noncomputable def D_r09_Written : Dyn X_r09_Written R_r09_Written := .of tt_r09_Written
noncomputable def con_r09_Written : Con Tryz.prog :=
  mkCon 35 J_r09_Written S_r09_Written D_r09_Written D_r09_Written (fun _ _ h => h) 1 0 [sh_TApi_Program] (by kernel_rfl) (by kernel_rfl) (by kernel_rfl) (lab_ok mixed_ok (labs_cons2 ok_r09_Written_10 rfl (labs_cons2 ok_r09_Written_9 rfl (labs_cons2 ok_r09_Written_4 rfl (labs_cons2 ok_r09_Written_3 rfl labs_nil)))) 4000 (fun x => by kernel_rfl) sd_r09_Written) rfl rfl (fun _ => rfl) (by kernel_rfl) rfl (fun _ => rfl) (fun x y _ => by kernel_rfl)

/-! rondeauref10.Listed (r10_Listed) -/
abbrev X_r10_Listed : Type := TApi_Program
abbrev R_r10_Listed : Type := Bool
noncomputable def J_r10_Listed : Job Tryz.prog :=
  job Tryz.prog Tryz.f16 20 [(1, 3)] [] [] [] [.any] [] [con_r09_Written, con_r10_Ring] R_r10_Listed [] fun y => [V.bool y]
noncomputable def S_r10_Listed : LabS :=
  lab0 Tryz.f16 1 0 X_r10_Listed (fun x => [e_TApi_Program x]) fun l => (d_TApi_Program (at_ l 0))
structure X_r10_Listed_2 where
  p_1 : TApi_Program
  i_3 : Int
noncomputable def S_r10_Listed_2 : LabS :=
  labAt Tryz.f16 2 [(1, .any), (3, .any)] [] [] X_r10_Listed_2 (fun x => [(eVp e_TApi_Program) x.p_1, (V.int .i64) x.i_3]) fun l => ⟨(dVp d_TApi_Program) (at_ l 0), dI (at_ l 1)⟩
noncomputable def tt_r10_Listed_2 (D_r10_Listed_2 : Dyn X_r10_Listed_2 R_r10_Listed) (x : X_r10_Listed_2) : TT Tryz.prog R_r10_Listed :=
 (.ite (ilt x.i_3 ((x.p_1.Rings.n : Nat) : Int))
 (.need (inb x.i_3 x.p_1.Rings.n) <|
 (.call con_r10_Ring (x.p_1.Rings.get (Int.toNat x.i_3)) fun (y2 : R_r10_Ring) =>
 (.ite (seq y2 (ByteArray.mk #[]))
 (.ret false)
 (.jump S_r10_Listed_2 D_r10_Listed_2 (X_r10_Listed_2.mk x.p_1 (IntKind.i64.wrap (x.i_3 + 1)))))))
 (.call con_r09_Written x.p_1 fun (y2 : R_r09_Written) =>
 (.ret y2)))
theorem sd_r10_Listed_2 (D_r10_Listed_2 : Dyn X_r10_Listed_2 R_r10_Listed) (x : X_r10_Listed_2) : (tt_r10_Listed_2 D_r10_Listed_2 x).Sides :=
  (TT.s_ite (TT.s_need (TT.s_call fun _ => (TT.s_ite TT.s_ret TT.s_jump))) (TT.s_call fun _ => TT.s_ret))

noncomputable def D_r10_Listed_2 : Dyn X_r10_Listed_2 R_r10_Listed := Dyn.loop tt_r10_Listed_2
theorem ok_r10_Listed_2 : LabOK J_r10_Listed S_r10_Listed_2 D_r10_Listed_2 :=
  loop_ok fun D_r10_Listed_2 h_2 => lab_ok mixed_ok (labs_cons2 h_2 rfl labs_nil) 4000 (fun x => by kernel_rfl) (sd_r10_Listed_2 D_r10_Listed_2)
noncomputable def tt_r10_Listed (x : X_r10_Listed) : TT Tryz.prog R_r10_Listed :=
 (.jump S_r10_Listed_2 D_r10_Listed_2 (X_r10_Listed_2.mk x 0))
theorem sd_r10_Listed (x : X_r10_Listed) : (tt_r10_Listed x).Sides :=
  TT.s_jump

noncomputable def D_r10_Listed : Dyn X_r10_Listed R_r10_Listed := .of tt_r10_Listed
noncomputable def con_r10_Listed : Con Tryz.prog :=
  mkCon 16 J_r10_Listed S_r10_Listed D_r10_Listed D_r10_Listed (fun _ _ h => h) 1 0 [sh_TApi_Program] (by kernel_rfl) (by kernel_rfl) (by kernel_rfl) (lab_ok mixed_ok (labs_cons2 ok_r10_Listed_2 rfl labs_nil) 4000 (fun x => by kernel_rfl) sd_r10_Listed) rfl rfl (fun _ => rfl) (by kernel_rfl) rfl (fun _ => rfl) (fun x y _ => by kernel_rfl)

/-! rondeauref10.Print (r10_Print) -/
abbrev X_r10_Print : Type := TApi_Program
abbrev R_r10_Print : Type := ByteArray
noncomputable def J_r10_Print : Job Tryz.prog :=
  job Tryz.prog Tryz.f17 55 [(1, 3)] [] [] [] [.any] [] [con_r10_Line, con_r10_Ring] R_r10_Print [] fun y => [V.str y]
noncomputable def S_r10_Print : LabS :=
  lab0 Tryz.f17 1 0 X_r10_Print (fun x => [e_TApi_Program x]) fun l => (d_TApi_Program (at_ l 0))
structure X_r10_Print_3 where
  p_1 : TApi_Program
  s_3 : ByteArray
  i_4 : Int
noncomputable def S_r10_Print_3 : LabS :=
  labAt Tryz.f17 3 [(1, .any), (3, .any), (4, .any)] [] [] X_r10_Print_3 (fun x => [(eVp e_TApi_Program) x.p_1, V.str x.s_3, (V.int .i64) x.i_4]) fun l => ⟨(dVp d_TApi_Program) (at_ l 0), dS (at_ l 1), dI (at_ l 2)⟩
structure X_r10_Print_6 where
  p_1 : TApi_Program
  s_3 : ByteArray
noncomputable def S_r10_Print_6 : LabS :=
  labAt Tryz.f17 6 [(1, .any), (3, .any)] [] [] X_r10_Print_6 (fun x => [(eVp e_TApi_Program) x.p_1, V.str x.s_3]) fun l => ⟨(dVp d_TApi_Program) (at_ l 0), dS (at_ l 1)⟩
structure X_r10_Print_7 where
  p_1 : TApi_Program
  s_3 : ByteArray
  i_5 : Int
noncomputable def S_r10_Print_7 : LabS :=
  labAt Tryz.f17 7 [(1, .any), (3, .any), (5, .any)] [] [] X_r10_Print_7 (fun x => [(eVp e_TApi_Program) x.p_1, V.str x.s_3, (V.int .i64) x.i_5]) fun l => ⟨(dVp d_TApi_Program) (at_ l 0), dS (at_ l 1), dI (at_ l 2)⟩
structure X_r10_Print_8 where
  p_1 : TApi_Program
  s_3 : ByteArray
  i_5 : Int
noncomputable def S_r10_Print_8 : LabS :=
  labAt Tryz.f17 8 [(1, .any), (3, .any), (5, .any)] [] [] X_r10_Print_8 (fun x => [(eVp e_TApi_Program) x.p_1, V.str x.s_3, (V.int .i64) x.i_5]) fun l => ⟨(dVp d_TApi_Program) (at_ l 0), dS (at_ l 1), dI (at_ l 2)⟩
structure X_r10_Print_11 where
  p_1 : TApi_Program
  s_3 : ByteArray
  i_5 : Int
  k_6 : Int
noncomputable def S_r10_Print_11 : LabS :=
  labAt Tryz.f17 11 [(1, .any), (3, .any), (5, .any), (6, .any)] [] [] X_r10_Print_11 (fun x => [(eVp e_TApi_Program) x.p_1, V.str x.s_3, (V.int .i64) x.i_5, (V.int .i64) x.k_6]) fun l => ⟨(dVp d_TApi_Program) (at_ l 0), dS (at_ l 1), dI (at_ l 2), dI (at_ l 3)⟩
noncomputable def tt_r10_Print_8 (D_r10_Print_7 : Dyn X_r10_Print_7 R_r10_Print) (x : X_r10_Print_8) : TT Tryz.prog R_r10_Print :=
 (.jump S_r10_Print_7 D_r10_Print_7 (X_r10_Print_7.mk x.p_1 x.s_3 (IntKind.i64.wrap (x.i_5 + 1))))
theorem sd_r10_Print_8 (D_r10_Print_7 : Dyn X_r10_Print_7 R_r10_Print) (x : X_r10_Print_8) : (tt_r10_Print_8 D_r10_Print_7 x).Sides :=
  TT.s_jump

noncomputable def D_r10_Print_8 (D_r10_Print_7 : Dyn X_r10_Print_7 R_r10_Print) : Dyn X_r10_Print_8 R_r10_Print := .of (tt_r10_Print_8 D_r10_Print_7)
theorem ok_r10_Print_8 (D_r10_Print_7 : Dyn X_r10_Print_7 R_r10_Print) (h_7 : LabOK J_r10_Print S_r10_Print_7 D_r10_Print_7) : LabOK J_r10_Print S_r10_Print_8 (D_r10_Print_8 D_r10_Print_7) :=
  lab_ok mixed_ok (labs_cons2 h_7 rfl labs_nil) 4000 (fun x => by kernel_rfl) (sd_r10_Print_8 D_r10_Print_7)
noncomputable def tt_r10_Print_11 (D_r10_Print_7 : Dyn X_r10_Print_7 R_r10_Print) (D_r10_Print_11 : Dyn X_r10_Print_11 R_r10_Print) (x : X_r10_Print_11) : TT Tryz.prog R_r10_Print :=
 (.need (inb x.i_5 x.p_1.Threads.n) <|
 (.ite (ilt x.k_6 (((x.p_1.Threads.get (Int.toNat x.i_5)).n : Nat) : Int))
 (.need (inb x.i_5 x.p_1.Threads.n) <|
 (.need (inb x.k_6 (x.p_1.Threads.get (Int.toNat x.i_5)).n) <|
 (.call con_r10_Line ((x.p_1.Threads.get (Int.toNat x.i_5)).get (Int.toNat x.k_6)) fun (y3 : R_r10_Line) =>
 (.need (decide ((((ByteArray.size y3) + (ByteArray.size (ByteArray.mk #[10]))) ≤ (9223372036854775807 : Nat)))) <|
 (.need (decide ((((ByteArray.size x.s_3) + (ByteArray.size (y3 ++ (ByteArray.mk #[10])))) ≤ (9223372036854775807 : Nat)))) <|
 (.jump S_r10_Print_11 D_r10_Print_11 (X_r10_Print_11.mk x.p_1 (x.s_3 ++ (y3 ++ (ByteArray.mk #[10]))) x.i_5 (IntKind.i64.wrap (x.k_6 + 1)))))))))
 (.jump S_r10_Print_8 (D_r10_Print_8 D_r10_Print_7) (X_r10_Print_8.mk x.p_1 x.s_3 x.i_5))))
theorem sd_r10_Print_11 (D_r10_Print_7 : Dyn X_r10_Print_7 R_r10_Print) (D_r10_Print_11 : Dyn X_r10_Print_11 R_r10_Print) (x : X_r10_Print_11) : (tt_r10_Print_11 D_r10_Print_7 D_r10_Print_11 x).Sides :=
  (TT.s_need (TT.s_ite (TT.s_need (TT.s_need (TT.s_call fun _ => (TT.s_need (TT.s_need TT.s_jump))))) TT.s_jump))

noncomputable def D_r10_Print_11 (D_r10_Print_7 : Dyn X_r10_Print_7 R_r10_Print) : Dyn X_r10_Print_11 R_r10_Print := Dyn.loop (tt_r10_Print_11 D_r10_Print_7)
theorem ok_r10_Print_11 (D_r10_Print_7 : Dyn X_r10_Print_7 R_r10_Print) (h_7 : LabOK J_r10_Print S_r10_Print_7 D_r10_Print_7) : LabOK J_r10_Print S_r10_Print_11 (D_r10_Print_11 D_r10_Print_7) :=
  loop_ok fun D_r10_Print_11 h_11 => lab_ok mixed_ok (labs_cons2 h_7 rfl (labs_cons2 h_11 rfl (labs_cons2 (ok_r10_Print_8 D_r10_Print_7 h_7) rfl labs_nil))) 4000 (fun x => by kernel_rfl) (sd_r10_Print_11 D_r10_Print_7 D_r10_Print_11)
noncomputable def tt_r10_Print_7 (D_r10_Print_7 : Dyn X_r10_Print_7 R_r10_Print) (x : X_r10_Print_7) : TT Tryz.prog R_r10_Print :=
 (.ite (ilt x.i_5 ((x.p_1.Threads.n : Nat) : Int))
 (.need (decide ((((ByteArray.size x.s_3) + (ByteArray.size (ByteArray.mk #[116, 104, 114, 101, 97, 100, 10]))) ≤ (9223372036854775807 : Nat)))) <|
 (.jump S_r10_Print_11 (D_r10_Print_11 D_r10_Print_7) (X_r10_Print_11.mk x.p_1 (x.s_3 ++ (ByteArray.mk #[116, 104, 114, 101, 97, 100, 10])) x.i_5 0)))
 (.ret x.s_3))
theorem sd_r10_Print_7 (D_r10_Print_7 : Dyn X_r10_Print_7 R_r10_Print) (x : X_r10_Print_7) : (tt_r10_Print_7 D_r10_Print_7 x).Sides :=
  (TT.s_ite (TT.s_need TT.s_jump) TT.s_ret)

noncomputable def D_r10_Print_7 : Dyn X_r10_Print_7 R_r10_Print := Dyn.loop tt_r10_Print_7
theorem ok_r10_Print_7 : LabOK J_r10_Print S_r10_Print_7 D_r10_Print_7 :=
  loop_ok fun D_r10_Print_7 h_7 => lab_ok mixed_ok (labs_cons2 h_7 rfl (labs_cons2 (ok_r10_Print_8 D_r10_Print_7 h_7) rfl (labs_cons2 (ok_r10_Print_11 D_r10_Print_7 h_7) rfl labs_nil))) 4000 (fun x => by kernel_rfl) (sd_r10_Print_7 D_r10_Print_7)
noncomputable def tt_r10_Print_6 (x : X_r10_Print_6) : TT Tryz.prog R_r10_Print :=
 (.jump S_r10_Print_7 D_r10_Print_7 (X_r10_Print_7.mk x.p_1 x.s_3 0))
theorem sd_r10_Print_6 (x : X_r10_Print_6) : (tt_r10_Print_6 x).Sides :=
  TT.s_jump

noncomputable def D_r10_Print_6 : Dyn X_r10_Print_6 R_r10_Print := .of tt_r10_Print_6
theorem ok_r10_Print_6 : LabOK J_r10_Print S_r10_Print_6 D_r10_Print_6 :=
  lab_ok mixed_ok (labs_cons2 ok_r10_Print_7 rfl labs_nil) 4000 (fun x => by kernel_rfl) sd_r10_Print_6
noncomputable def tt_r10_Print_3 (D_r10_Print_3 : Dyn X_r10_Print_3 R_r10_Print) (x : X_r10_Print_3) : TT Tryz.prog R_r10_Print :=
 (.ite (ilt x.i_4 ((x.p_1.Rings.n : Nat) : Int))
 (.need (inb x.i_4 x.p_1.Rings.n) <|
 (.call con_r10_Ring (x.p_1.Rings.get (Int.toNat x.i_4)) fun (y2 : R_r10_Ring) =>
 (.need (decide ((((ByteArray.size y2) + (ByteArray.size (ByteArray.mk #[10]))) ≤ (9223372036854775807 : Nat)))) <|
 (.need (decide ((((ByteArray.size x.s_3) + (ByteArray.size (y2 ++ (ByteArray.mk #[10])))) ≤ (9223372036854775807 : Nat)))) <|
 (.jump S_r10_Print_3 D_r10_Print_3 (X_r10_Print_3.mk x.p_1 (x.s_3 ++ (y2 ++ (ByteArray.mk #[10]))) (IntKind.i64.wrap (x.i_4 + 1))))))))
 (.jump S_r10_Print_6 D_r10_Print_6 (X_r10_Print_6.mk x.p_1 x.s_3)))
theorem sd_r10_Print_3 (D_r10_Print_3 : Dyn X_r10_Print_3 R_r10_Print) (x : X_r10_Print_3) : (tt_r10_Print_3 D_r10_Print_3 x).Sides :=
  (TT.s_ite (TT.s_need (TT.s_call fun _ => (TT.s_need (TT.s_need TT.s_jump)))) TT.s_jump)

noncomputable def D_r10_Print_3 : Dyn X_r10_Print_3 R_r10_Print := Dyn.loop tt_r10_Print_3
theorem ok_r10_Print_3 : LabOK J_r10_Print S_r10_Print_3 D_r10_Print_3 :=
  loop_ok fun D_r10_Print_3 h_3 => lab_ok mixed_ok (labs_cons2 h_3 rfl (labs_cons2 ok_r10_Print_7 rfl (labs_cons2 ok_r10_Print_6 rfl labs_nil))) 4000 (fun x => by kernel_rfl) (sd_r10_Print_3 D_r10_Print_3)
noncomputable def tt_r10_Print (x : X_r10_Print) : TT Tryz.prog R_r10_Print :=
 (.jump S_r10_Print_3 D_r10_Print_3 (X_r10_Print_3.mk x (ByteArray.mk #[]) 0))
theorem sd_r10_Print (x : X_r10_Print) : (tt_r10_Print x).Sides :=
  TT.s_jump

noncomputable def D_r10_Print : Dyn X_r10_Print R_r10_Print := .of tt_r10_Print
noncomputable def con_r10_Print : Con Tryz.prog :=
  mkCon 17 J_r10_Print S_r10_Print D_r10_Print D_r10_Print (fun _ _ h => h) 1 0 [sh_TApi_Program] (by kernel_rfl) (by kernel_rfl) (by kernel_rfl) (lab_ok mixed_ok (labs_cons2 ok_r10_Print_7 rfl (labs_cons2 ok_r10_Print_6 rfl (labs_cons2 ok_r10_Print_3 rfl labs_nil))) 4000 (fun x => by kernel_rfl) sd_r10_Print) rfl rfl (fun _ => rfl) (by kernel_rfl) rfl (fun _ => rfl) (fun x y _ => by kernel_rfl)

/-! rondeaulaw10.ListingPrints (w10_ListingPrints) -/
abbrev X_w10_ListingPrints : Type := TApi_Program × TApi_Instr
abbrev R_w10_ListingPrints : Type := Bool
noncomputable def J_w10_ListingPrints : Job Tryz.prog :=
  job Tryz.prog Tryz.f3 72 [(2, 3), (3, 3), (17, 1), (23, 1)] [] [] [] [.any] [] [con_listing_Line, con_listing_Print, con_r09_Copy, con_r09_Few, con_r09_Right, con_r10_Line, con_r10_Listed, con_r10_Print, con_w10_awake] R_w10_ListingPrints [] fun y => [V.bool y]
noncomputable def S_w10_ListingPrints : LabS :=
  lab0 Tryz.f3 2 0 X_w10_ListingPrints (fun x => [e_TApi_Program x.1, e_TApi_Instr x.2]) fun l => (d_TApi_Program (at_ l 0), d_TApi_Instr (at_ l 1))
structure X_w10_ListingPrints_3 where
  p_2 : TApi_Program
  i_3 : TApi_Instr
noncomputable def S_w10_ListingPrints_3 : LabS :=
  labAt Tryz.f3 3 [(2, .any), (3, .any)] [] [] X_w10_ListingPrints_3 (fun x => [(eVp e_TApi_Program) x.p_2, (eVp e_TApi_Instr) x.i_3]) fun l => ⟨(dVp d_TApi_Program) (at_ l 0), (dVp d_TApi_Instr) (at_ l 1)⟩
structure X_w10_ListingPrints_7 where
  p_2 : TApi_Program
  s_5 : ByteArray
  e_6 : Int
noncomputable def S_w10_ListingPrints_7 : LabS :=
  labAt Tryz.f3 7 [(2, .any), (5, .any), (6, .any)] [] [] X_w10_ListingPrints_7 (fun x => [(eVp e_TApi_Program) x.p_2, V.str x.s_5, (V.int .i64) x.e_6]) fun l => ⟨(dVp d_TApi_Program) (at_ l 0), dS (at_ l 1), dI (at_ l 2)⟩
noncomputable def tt_w10_ListingPrints_7 (x : X_w10_ListingPrints_7) : TT Tryz.prog R_w10_ListingPrints :=
 (.call con_r10_Listed x.p_2 fun (y1 : R_r10_Listed) =>
 (.ite (!y1)
 (.ite (seq x.s_5 (ByteArray.mk #[]))
 (.ret (ieq x.e_6 1))
 (.ret false))
 (.call con_r10_Print x.p_2 fun (y2 : R_r10_Print) =>
 (.ite (seq x.s_5 y2)
 (.ret (ieq x.e_6 0))
 (.ret false)))))
theorem sd_w10_ListingPrints_7 (x : X_w10_ListingPrints_7) : (tt_w10_ListingPrints_7 x).Sides :=
  (TT.s_call fun _ => (TT.s_ite (TT.s_ite TT.s_ret TT.s_ret) (TT.s_call fun _ => (TT.s_ite TT.s_ret TT.s_ret))))

noncomputable def D_w10_ListingPrints_7 : Dyn X_w10_ListingPrints_7 R_w10_ListingPrints := .of tt_w10_ListingPrints_7
theorem ok_w10_ListingPrints_7 : LabOK J_w10_ListingPrints S_w10_ListingPrints_7 D_w10_ListingPrints_7 :=
  lab_ok mixed_ok labs_nil 4000 (fun x => by kernel_rfl) sd_w10_ListingPrints_7
noncomputable def tt_w10_ListingPrints_3 (x : X_w10_ListingPrints_3) : TT Tryz.prog R_w10_ListingPrints :=
 (.call con_r09_Copy x.p_2 fun (y1 : R_r09_Copy) =>
 (.call con_listing_Print y1 fun (y2 : R_listing_Print) =>
 (.call con_listing_Line x.i_3 fun (y3 : R_listing_Line) =>
 (.call con_r09_Right x.i_3 fun (y4 : R_r09_Right) =>
 (.ite (!(y4 == (ieq y3.snd 0)))
 (.ret false)
 (.ite (!(ieq y3.snd 0))
 (.ite (!(seq y3.fst (ByteArray.mk #[])))
 (.ret false)
 (.ite (!(ieq y3.snd 1))
 (.ret false)
 (.ite (ieq y3.snd 0)
 (.call con_r10_Line x.i_3 fun (y5 : R_r10_Line) =>
 (.ite (!(seq y3.fst y5))
 (.ret false)
 (.jump S_w10_ListingPrints_7 D_w10_ListingPrints_7 (X_w10_ListingPrints_7.mk x.p_2 y2.fst y2.snd))))
 (.jump S_w10_ListingPrints_7 D_w10_ListingPrints_7 (X_w10_ListingPrints_7.mk x.p_2 y2.fst y2.snd)))))
 (.ite (ieq y3.snd 0)
 (.call con_r10_Line x.i_3 fun (y5 : R_r10_Line) =>
 (.ite (!(seq y3.fst y5))
 (.ret false)
 (.jump S_w10_ListingPrints_7 D_w10_ListingPrints_7 (X_w10_ListingPrints_7.mk x.p_2 y2.fst y2.snd))))
 (.jump S_w10_ListingPrints_7 D_w10_ListingPrints_7 (X_w10_ListingPrints_7.mk x.p_2 y2.fst y2.snd)))))))))
theorem sd_w10_ListingPrints_3 (x : X_w10_ListingPrints_3) : (tt_w10_ListingPrints_3 x).Sides :=
  (TT.s_call fun _ => (TT.s_call fun _ => (TT.s_call fun _ => (TT.s_call fun _ => (TT.s_ite TT.s_ret (TT.s_ite (TT.s_ite TT.s_ret (TT.s_ite TT.s_ret (TT.s_ite (TT.s_call fun _ => (TT.s_ite TT.s_ret TT.s_jump)) TT.s_jump))) (TT.s_ite (TT.s_call fun _ => (TT.s_ite TT.s_ret TT.s_jump)) TT.s_jump)))))))

noncomputable def D_w10_ListingPrints_3 : Dyn X_w10_ListingPrints_3 R_w10_ListingPrints := .of tt_w10_ListingPrints_3
theorem ok_w10_ListingPrints_3 : LabOK J_w10_ListingPrints S_w10_ListingPrints_3 D_w10_ListingPrints_3 :=
  lab_ok mixed_ok (labs_cons2 ok_w10_ListingPrints_7 rfl labs_nil) 4000 (fun x => by kernel_rfl) sd_w10_ListingPrints_3
noncomputable def tt_w10_ListingPrints (x : X_w10_ListingPrints) : TT Tryz.prog R_w10_ListingPrints :=
 (.call con_w10_awake PUnit.unit fun (y1 : R_w10_awake) =>
 (.ite (!y1)
 (.call con_w10_awake PUnit.unit fun (y2 : R_w10_awake) =>
 (.ret y2))
 (.call con_r09_Few (x.fst, 100) fun (y2 : R_r09_Few) =>
 (.ite (!y2)
 (.call con_w10_awake PUnit.unit fun (y3 : R_w10_awake) =>
 (.ret y3))
 (.jump S_w10_ListingPrints_3 D_w10_ListingPrints_3 (X_w10_ListingPrints_3.mk x.fst x.snd))))))
theorem sd_w10_ListingPrints (x : X_w10_ListingPrints) : (tt_w10_ListingPrints x).Sides :=
  (TT.s_call fun _ => (TT.s_ite (TT.s_call fun _ => TT.s_ret) (TT.s_call fun _ => (TT.s_ite (TT.s_call fun _ => TT.s_ret) TT.s_jump))))

noncomputable def D_w10_ListingPrints : Dyn X_w10_ListingPrints R_w10_ListingPrints := .of tt_w10_ListingPrints
noncomputable def con_w10_ListingPrints : Con Tryz.prog :=
  mkCon 3 J_w10_ListingPrints S_w10_ListingPrints D_w10_ListingPrints D_w10_ListingPrints (fun _ _ h => h) 2 0 [sh_TApi_Program, .any] (by kernel_rfl) (by kernel_rfl) (by kernel_rfl) (lab_ok mixed_ok (labs_cons2 ok_w10_ListingPrints_7 rfl (labs_cons2 ok_w10_ListingPrints_3 rfl labs_nil)) 4000 (fun x => by kernel_rfl) sd_w10_ListingPrints) rfl rfl (fun _ => rfl) (by kernel_rfl) rfl (fun _ => rfl) (fun x y _ => by kernel_rfl)

abbrev DslA_str : Type := (Sl ByteArray)
def eslA_str : DslA_str → V := (eSl (some 9) 1 V.str)
def dslA_str : V → DslA_str := (dSl dS)
def hslA_str : Sh := (.sl (some 9) 1 (V.str (dS .undef)))

/-! rondeauref10.words (r10_words) -/
abbrev X_r10_words : Type := ByteArray
abbrev R_r10_words : Type := (Sl ByteArray)
noncomputable def J_r10_words : Job Tryz.prog :=
  job Tryz.prog Tryz.f54 32 [(22, 1), (31, 1)] [] [] [.shut 2] [hsl_str] [] [] R_r10_words [] fun y => [esl_str y]
noncomputable def S_r10_words : LabS :=
  lab0 Tryz.f54 1 0 X_r10_words (fun x => [V.str x]) fun l => (dS (at_ l 0))
structure X_r10_words_4 where
  s_0 : ByteArray
  out_3 : (Sl ByteArray)
  at_4 : Int
  i_5 : Int
noncomputable def S_r10_words_4 : LabS :=
  labAt Tryz.f54 4 [(0, .any), (3, hslA_str), (4, .any), (5, .any)] [] [] X_r10_words_4 (fun x => [V.str x.s_0, eslA_str x.out_3, (V.int .i64) x.at_4, (V.int .i64) x.i_5]) fun l => ⟨dS (at_ l 0), dslA_str (at_ l 1), dI (at_ l 2), dI (at_ l 3)⟩
structure X_r10_words_5 where
  s_0 : ByteArray
  out_3 : (Sl ByteArray)
  at_4 : Int
  i_5 : Int
noncomputable def S_r10_words_5 : LabS :=
  labAt Tryz.f54 5 [(0, .any), (3, hslA_str), (4, .any), (5, .any)] [] [] X_r10_words_5 (fun x => [V.str x.s_0, eslA_str x.out_3, (V.int .i64) x.at_4, (V.int .i64) x.i_5]) fun l => ⟨dS (at_ l 0), dslA_str (at_ l 1), dI (at_ l 2), dI (at_ l 3)⟩
noncomputable def tt_r10_words_5 (D_r10_words_4 : Dyn X_r10_words_4 R_r10_words) (x : X_r10_words_5) : TT Tryz.prog R_r10_words :=
 (.jump S_r10_words_4 D_r10_words_4 (X_r10_words_4.mk x.s_0 x.out_3 x.at_4 (IntKind.i64.wrap (x.i_5 + 1))))
theorem sd_r10_words_5 (D_r10_words_4 : Dyn X_r10_words_4 R_r10_words) (x : X_r10_words_5) : (tt_r10_words_5 D_r10_words_4 x).Sides :=
  TT.s_jump

noncomputable def D_r10_words_5 (D_r10_words_4 : Dyn X_r10_words_4 R_r10_words) : Dyn X_r10_words_5 R_r10_words := .of (tt_r10_words_5 D_r10_words_4)
theorem ok_r10_words_5 (D_r10_words_4 : Dyn X_r10_words_4 R_r10_words) (h_4 : LabOK J_r10_words S_r10_words_4 D_r10_words_4) : LabOK J_r10_words S_r10_words_5 (D_r10_words_5 D_r10_words_4) :=
  lab_ok mixed_ok (labs_cons2 h_4 rfl labs_nil) 4000 (fun x => by kernel_rfl) (sd_r10_words_5 D_r10_words_4)
noncomputable def tt_r10_words_4 (D_r10_words_4 : Dyn X_r10_words_4 R_r10_words) (x : X_r10_words_4) : TT Tryz.prog R_r10_words :=
 (.ite (ile x.i_5 (((ByteArray.size x.s_0) : Nat) : Int))
 (.ite (ieq x.i_5 (((ByteArray.size x.s_0) : Nat) : Int))
 (.need ((upto x.i_5 (ByteArray.size x.s_0)) && (upto x.at_4 (Int.toNat x.i_5))) <|
 (.need (true && (room (x.out_3.n + 1) 16)) <|
 (.jump S_r10_words_5 (D_r10_words_5 D_r10_words_4) (X_r10_words_5.mk x.s_0 (Sl.mk (cond (Nat.beq 1 0) x.out_3.nil false) (x.out_3.n + 1) (fun i2 => (cond (Nat.blt i2 x.out_3.n) (x.out_3.get i2) (ByteArray.extract x.s_0 (Int.toNat x.at_4) (Int.toNat x.i_5))))) (IntKind.i64.wrap (x.i_5 + 1)) x.i_5))))
 (.need (inb x.i_5 (ByteArray.size x.s_0)) <|
 (.ite (ieq (bt x.s_0 (Int.toNat x.i_5)) 32)
 (.need ((upto x.i_5 (ByteArray.size x.s_0)) && (upto x.at_4 (Int.toNat x.i_5))) <|
 (.need (true && (room (x.out_3.n + 1) 16)) <|
 (.jump S_r10_words_5 (D_r10_words_5 D_r10_words_4) (X_r10_words_5.mk x.s_0 (Sl.mk (cond (Nat.beq 1 0) x.out_3.nil false) (x.out_3.n + 1) (fun i2 => (cond (Nat.blt i2 x.out_3.n) (x.out_3.get i2) (ByteArray.extract x.s_0 (Int.toNat x.at_4) (Int.toNat x.i_5))))) (IntKind.i64.wrap (x.i_5 + 1)) x.i_5))))
 (.jump S_r10_words_5 (D_r10_words_5 D_r10_words_4) (X_r10_words_5.mk x.s_0 x.out_3 x.at_4 x.i_5)))))
 (.ret x.out_3))
theorem sd_r10_words_4 (D_r10_words_4 : Dyn X_r10_words_4 R_r10_words) (x : X_r10_words_4) : (tt_r10_words_4 D_r10_words_4 x).Sides :=
  (TT.s_ite (TT.s_ite (TT.s_need (TT.s_need TT.s_jump)) (TT.s_need (TT.s_ite (TT.s_need (TT.s_need TT.s_jump)) TT.s_jump))) TT.s_ret)

noncomputable def D_r10_words_4 : Dyn X_r10_words_4 R_r10_words := Dyn.loop tt_r10_words_4
theorem ok_r10_words_4 : LabOK J_r10_words S_r10_words_4 D_r10_words_4 :=
  loop_ok fun D_r10_words_4 h_4 => lab_ok mixed_ok (labs_cons2 h_4 rfl (labs_cons2 (ok_r10_words_5 D_r10_words_4 h_4) rfl labs_nil)) 4000 (fun x => by kernel_rfl) (sd_r10_words_4 D_r10_words_4)
noncomputable def tt_r10_words (x : X_r10_words) : TT Tryz.prog R_r10_words :=
 (.jump S_r10_words_4 D_r10_words_4 (X_r10_words_4.mk x (Sl.mk true 0 (fun _i1 => (ByteArray.mk #[]))) 0 0))
theorem sd_r10_words (x : X_r10_words) : (tt_r10_words x).Sides :=
  TT.s_jump

noncomputable def D_r10_words : Dyn X_r10_words R_r10_words := .of tt_r10_words
noncomputable def con_r10_words : Con Tryz.prog :=
  mkCon 54 J_r10_words S_r10_words D_r10_words D_r10_words (fun _ _ h => h) 1 0 [.any] (by kernel_rfl) (by kernel_rfl) (by kernel_rfl) (lab_ok mixed_ok (labs_cons2 ok_r10_words_4 rfl labs_nil) 4000 (fun x => by kernel_rfl) sd_r10_words) rfl rfl (fun _ => rfl) (by kernel_rfl) rfl (fun _ => rfl) (fun x y _ => by kernel_rfl)

/-! rondeauref10.value (r10_value) -/
abbrev X_r10_value : Type := ByteArray
abbrev R_r10_value : Type := Int
noncomputable def J_r10_value : Job Tryz.prog :=
  job Tryz.prog Tryz.f56 20 [] [] [] [] [.any] [] [] R_r10_value [] fun y => [(V.int .u64) y]
noncomputable def S_r10_value : LabS :=
  lab0 Tryz.f56 1 0 X_r10_value (fun x => [V.str x]) fun l => (dS (at_ l 0))
structure X_r10_value_3 where
  s_0 : ByteArray
  n_3 : Int
  i_4 : Int
noncomputable def S_r10_value_3 : LabS :=
  labAt Tryz.f56 3 [(0, .any), (3, .any), (4, .any)] [] [] X_r10_value_3 (fun x => [V.str x.s_0, (V.int .u64) x.n_3, (V.int .i64) x.i_4]) fun l => ⟨dS (at_ l 0), dI (at_ l 1), dI (at_ l 2)⟩
noncomputable def tt_r10_value_3 (D_r10_value_3 : Dyn X_r10_value_3 R_r10_value) (x : X_r10_value_3) : TT Tryz.prog R_r10_value :=
 (.ite (ilt x.i_4 (((ByteArray.size x.s_0) : Nat) : Int))
 (.need (inb x.i_4 (ByteArray.size x.s_0)) <|
 (.jump S_r10_value_3 D_r10_value_3 (X_r10_value_3.mk x.s_0 (IntKind.u64.wrap ((IntKind.u64.wrap ((10 : Int) * x.n_3)) + (IntKind.u64.wrap (IntKind.u8.wrap ((bt x.s_0 (Int.toNat x.i_4)) - 48))))) (IntKind.i64.wrap (x.i_4 + 1)))))
 (.ret x.n_3))
theorem sd_r10_value_3 (D_r10_value_3 : Dyn X_r10_value_3 R_r10_value) (x : X_r10_value_3) : (tt_r10_value_3 D_r10_value_3 x).Sides :=
  (TT.s_ite (TT.s_need TT.s_jump) TT.s_ret)

noncomputable def D_r10_value_3 : Dyn X_r10_value_3 R_r10_value := Dyn.loop tt_r10_value_3
theorem ok_r10_value_3 : LabOK J_r10_value S_r10_value_3 D_r10_value_3 :=
  loop_ok fun D_r10_value_3 h_3 => lab_ok mixed_ok (labs_cons2 h_3 rfl labs_nil) 4000 (fun x => by kernel_rfl) (sd_r10_value_3 D_r10_value_3)
noncomputable def tt_r10_value (x : X_r10_value) : TT Tryz.prog R_r10_value :=
 (.jump S_r10_value_3 D_r10_value_3 (X_r10_value_3.mk x 0 0))
theorem sd_r10_value (x : X_r10_value) : (tt_r10_value x).Sides :=
  TT.s_jump

noncomputable def D_r10_value : Dyn X_r10_value R_r10_value := .of tt_r10_value
noncomputable def con_r10_value : Con Tryz.prog :=
  mkCon 56 J_r10_value S_r10_value D_r10_value D_r10_value (fun _ _ h => h) 1 0 [.any] (by kernel_rfl) (by kernel_rfl) (by kernel_rfl) (lab_ok mixed_ok (labs_cons2 ok_r10_value_3 rfl labs_nil) 4000 (fun x => by kernel_rfl) sd_r10_value) rfl rfl (fun _ => rfl) (by kernel_rfl) rfl (fun _ => rfl) (fun x y _ => by kernel_rfl)

/-! rondeauref10.small (r10_small) -/
abbrev X_r10_small : Type := ByteArray × Int
abbrev R_r10_small : Type := Int
noncomputable def J_r10_small : Job Tryz.prog :=
  job Tryz.prog Tryz.f55 15 [] [] [] [] [.any] [] [con_r10_value] R_r10_small [] fun y => [(V.int .i64) y]
noncomputable def S_r10_small : LabS :=
  lab0 Tryz.f55 2 0 X_r10_small (fun x => [V.str x.1, (V.int .i64) x.2]) fun l => (dS (at_ l 0), dI (at_ l 1))
noncomputable def tt_r10_small (x : X_r10_small) : TT Tryz.prog R_r10_small :=
 (.ite (ilt (((ByteArray.size x.fst) : Nat) : Int) x.snd)
 (.ret 1000)
 (.need (upto x.snd (ByteArray.size x.fst)) <|
 (.call con_r10_value (ByteArray.extract x.fst (Int.toNat x.snd) (ByteArray.size x.fst)) fun (y1 : R_r10_value) =>
 (.ret (IntKind.i64.wrap (imin y1 1000))))))
theorem sd_r10_small (x : X_r10_small) : (tt_r10_small x).Sides :=
  (TT.s_ite TT.s_ret (TT.s_need (TT.s_call fun _ => TT.s_ret)))

noncomputable def D_r10_small : Dyn X_r10_small R_r10_small := .of tt_r10_small
noncomputable def con_r10_small : Con Tryz.prog :=
  mkCon 55 J_r10_small S_r10_small D_r10_small D_r10_small (fun _ _ h => h) 2 0 [.any, .any] (by kernel_rfl) (by kernel_rfl) (by kernel_rfl) (lab_ok mixed_ok labs_nil 4000 (fun x => by kernel_rfl) sd_r10_small) rfl rfl (fun _ => rfl) (by kernel_rfl) rfl (fun _ => rfl) (fun x y _ => by kernel_rfl)

/-! rondeauref10.readRing (r10_readRing) -/
abbrev X_r10_readRing : Type := ByteArray
abbrev R_r10_readRing : Type := TApi_Ring × Bool
noncomputable def J_r10_readRing : Job Tryz.prog :=
  job Tryz.prog Tryz.f38 38 [(24, 1)] [] [] [] [.any, .any] [] [con_r10_Ring, con_r10_small, con_r10_words] R_r10_readRing [] fun y => [V.tup (V.cons (e_TApi_Ring y.1) (V.cons (V.bool y.2) (V.unit)))]
noncomputable def S_r10_readRing : LabS :=
  lab0 Tryz.f38 1 0 X_r10_readRing (fun x => [V.str x]) fun l => (dS (at_ l 0))
structure X_r10_readRing_5 where
  s_0 : ByteArray
  w_4 : (Sl ByteArray)
  m_2 : TApi_Ring
  m_5 : TApi_Ring
noncomputable def S_r10_readRing_5 : LabS :=
  labAt Tryz.f38 5 [(0, .any), (2, .any), (4, hsl_str), (5, .any)] [] [(.loc 2 0, .any), (.loc 5 0, .any)] X_r10_readRing_5 (fun x => [V.str x.s_0, (V.ptr (.loc 2 0) []), esl_str x.w_4, (V.ptr (.loc 5 0) []), e_TApi_Ring x.m_2, e_TApi_Ring x.m_5]) fun l => ⟨dS (at_ l 0), dsl_str (at_ l 2), d_TApi_Ring (at_ l 4), d_TApi_Ring (at_ l 5)⟩
structure X_r10_readRing_7 where
  s_0 : ByteArray
  m_2 : TApi_Ring
  m_5 : TApi_Ring
noncomputable def S_r10_readRing_7 : LabS :=
  labAt Tryz.f38 7 [(0, .any), (2, .any), (5, .any)] [] [(.loc 2 0, .any), (.loc 5 0, .any)] X_r10_readRing_7 (fun x => [V.str x.s_0, (V.ptr (.loc 2 0) []), (V.ptr (.loc 5 0) []), e_TApi_Ring x.m_2, e_TApi_Ring x.m_5]) fun l => ⟨dS (at_ l 0), d_TApi_Ring (at_ l 3), d_TApi_Ring (at_ l 4)⟩
noncomputable def tt_r10_readRing_7 (x : X_r10_readRing_7) : TT Tryz.prog R_r10_readRing :=
 (.ite (!(seq x.s_0 (ByteArray.mk #[])))
 (.call con_r10_Ring x.m_5 fun (y1 : R_r10_Ring) =>
 (.ret (x.m_5, (seq y1 x.s_0))))
 (.ret (x.m_5, false)))
theorem sd_r10_readRing_7 (x : X_r10_readRing_7) : (tt_r10_readRing_7 x).Sides :=
  (TT.s_ite (TT.s_call fun _ => TT.s_ret) TT.s_ret)

noncomputable def D_r10_readRing_7 : Dyn X_r10_readRing_7 R_r10_readRing := .of tt_r10_readRing_7
theorem ok_r10_readRing_7 : LabOK J_r10_readRing S_r10_readRing_7 D_r10_readRing_7 :=
  lab_ok mixed_ok labs_nil 4000 (fun x => by kernel_rfl) sd_r10_readRing_7
noncomputable def tt_r10_readRing_5 (x : X_r10_readRing_5) : TT Tryz.prog R_r10_readRing :=
 (.ite (ieq ((x.w_4.n : Nat) : Int) 3)
 (.need (inb 1 x.w_4.n) <|
 (.call con_r10_small ((x.w_4.get (Int.toNat 1)), 0) fun (y1 : R_r10_small) =>
 (.need (inb 2 x.w_4.n) <|
 (.call con_r10_small ((x.w_4.get (Int.toNat 2)), 0) fun (y2 : R_r10_small) =>
 (.jump S_r10_readRing_7 D_r10_readRing_7 (X_r10_readRing_7.mk x.s_0 x.m_2 (TApi_Ring.mk 2 y1 y2)))))))
 (.jump S_r10_readRing_7 D_r10_readRing_7 (X_r10_readRing_7.mk x.s_0 x.m_2 x.m_5)))
theorem sd_r10_readRing_5 (x : X_r10_readRing_5) : (tt_r10_readRing_5 x).Sides :=
  (TT.s_ite (TT.s_need (TT.s_call fun _ => (TT.s_need (TT.s_call fun _ => TT.s_jump)))) TT.s_jump)

noncomputable def D_r10_readRing_5 : Dyn X_r10_readRing_5 R_r10_readRing := .of tt_r10_readRing_5
theorem ok_r10_readRing_5 : LabOK J_r10_readRing S_r10_readRing_5 D_r10_readRing_5 :=
  lab_ok mixed_ok (labs_cons2 ok_r10_readRing_7 rfl labs_nil) 4000 (fun x => by kernel_rfl) sd_r10_readRing_5
noncomputable def tt_r10_readRing (x : X_r10_readRing) : TT Tryz.prog R_r10_readRing :=
 (.call con_r10_words x fun (y1 : R_r10_words) =>
 (.ite (ieq ((y1.n : Nat) : Int) 2)
 (.need (inb 1 y1.n) <|
 (.call con_r10_small ((y1.get (Int.toNat 1)), 0) fun (y2 : R_r10_small) =>
 (.jump S_r10_readRing_5 D_r10_readRing_5 (X_r10_readRing_5.mk x y1 (TApi_Ring.mk 0 0 0) (TApi_Ring.mk 1 y2 1)))))
 (.jump S_r10_readRing_5 D_r10_readRing_5 (X_r10_readRing_5.mk x y1 (TApi_Ring.mk 0 0 0) (TApi_Ring.mk 0 0 0)))))
theorem sd_r10_readRing (x : X_r10_readRing) : (tt_r10_readRing x).Sides :=
  (TT.s_call fun _ => (TT.s_ite (TT.s_need (TT.s_call fun _ => TT.s_jump)) TT.s_jump))

noncomputable def D_r10_readRing : Dyn X_r10_readRing R_r10_readRing := .of tt_r10_readRing
noncomputable def con_r10_readRing : Con Tryz.prog :=
  mkCon 38 J_r10_readRing S_r10_readRing D_r10_readRing D_r10_readRing (fun _ _ h => h) 1 0 [.any] (by kernel_rfl) (by kernel_rfl) (by kernel_rfl) (lab_ok mixed_ok (labs_cons2 ok_r10_readRing_7 rfl (labs_cons2 ok_r10_readRing_5 rfl labs_nil)) 4000 (fun x => by kernel_rfl) sd_r10_readRing) rfl rfl (fun _ => rfl) (by kernel_rfl) rfl (fun _ => rfl) (fun x y _ => by kernel_rfl)

/-! rondeauref10.readInstr (r10_readInstr) -/
abbrev X_r10_readInstr : Type := ByteArray
abbrev R_r10_readInstr : Type := TApi_Instr × Bool
noncomputable def J_r10_readInstr : Job Tryz.prog :=
  job Tryz.prog Tryz.f39 102 [] [] [] [] [.any, .any] [] [con_r09_Name, con_r09_Right, con_r10_Line, con_r10_names, con_r10_small, con_r10_value, con_r10_waits, con_r10_words] R_r10_readInstr [] fun y => [V.tup (V.cons (e_TApi_Instr y.1) (V.cons (V.bool y.2) (V.unit)))]
noncomputable def S_r10_readInstr : LabS :=
  lab0 Tryz.f39 1 0 X_r10_readInstr (fun x => [V.str x]) fun l => (dS (at_ l 0))
structure X_r10_readInstr_4 where
  s_0 : ByteArray
  w_4 : (Sl ByteArray)
  op_6 : Int
  m_2 : TApi_Instr
  m_5 : TApi_Instr
noncomputable def S_r10_readInstr_4 : LabS :=
  labAt Tryz.f39 4 [(0, .any), (2, .any), (4, hsl_str), (5, .any), (6, .any)] [] [(.loc 2 0, .any), (.loc 5 0, .any)] X_r10_readInstr_4 (fun x => [V.str x.s_0, (V.ptr (.loc 2 0) []), esl_str x.w_4, (V.ptr (.loc 5 0) []), (V.int .i64) x.op_6, e_TApi_Instr x.m_2, e_TApi_Instr x.m_5]) fun l => ⟨dS (at_ l 0), dsl_str (at_ l 2), dI (at_ l 4), d_TApi_Instr (at_ l 5), d_TApi_Instr (at_ l 6)⟩
structure X_r10_readInstr_5 where
  s_0 : ByteArray
  w_4 : (Sl ByteArray)
  op_6 : Int
  m_2 : TApi_Instr
  m_5 : TApi_Instr
noncomputable def S_r10_readInstr_5 : LabS :=
  labAt Tryz.f39 5 [(0, .any), (2, .any), (4, hsl_str), (5, .any), (6, .any)] [] [(.loc 2 0, .any), (.loc 5 0, .any)] X_r10_readInstr_5 (fun x => [V.str x.s_0, (V.ptr (.loc 2 0) []), esl_str x.w_4, (V.ptr (.loc 5 0) []), (V.int .i64) x.op_6, e_TApi_Instr x.m_2, e_TApi_Instr x.m_5]) fun l => ⟨dS (at_ l 0), dsl_str (at_ l 2), dI (at_ l 4), d_TApi_Instr (at_ l 5), d_TApi_Instr (at_ l 6)⟩
structure X_r10_readInstr_8 where
  s_0 : ByteArray
  w_4 : (Sl ByteArray)
  m_2 : TApi_Instr
  m_5 : TApi_Instr
noncomputable def S_r10_readInstr_8 : LabS :=
  labAt Tryz.f39 8 [(0, .any), (2, .any), (4, hsl_str), (5, .any)] [] [(.loc 2 0, .any), (.loc 5 0, .any)] X_r10_readInstr_8 (fun x => [V.str x.s_0, (V.ptr (.loc 2 0) []), esl_str x.w_4, (V.ptr (.loc 5 0) []), e_TApi_Instr x.m_2, e_TApi_Instr x.m_5]) fun l => ⟨dS (at_ l 0), dsl_str (at_ l 2), d_TApi_Instr (at_ l 4), d_TApi_Instr (at_ l 5)⟩
structure X_r10_readInstr_11 where
  s_0 : ByteArray
  w_4 : (Sl ByteArray)
  f_7 : ByteArray
  m_2 : TApi_Instr
  m_5 : TApi_Instr
noncomputable def S_r10_readInstr_11 : LabS :=
  labAt Tryz.f39 11 [(0, .any), (2, .any), (4, hsl_str), (5, .any), (7, .any)] [] [(.loc 2 0, .any), (.loc 5 0, .any)] X_r10_readInstr_11 (fun x => [V.str x.s_0, (V.ptr (.loc 2 0) []), esl_str x.w_4, (V.ptr (.loc 5 0) []), V.str x.f_7, e_TApi_Instr x.m_2, e_TApi_Instr x.m_5]) fun l => ⟨dS (at_ l 0), dsl_str (at_ l 2), dS (at_ l 4), d_TApi_Instr (at_ l 5), d_TApi_Instr (at_ l 6)⟩
structure X_r10_readInstr_12 where
  s_0 : ByteArray
  w_4 : (Sl ByteArray)
  f_7 : ByteArray
  k_8 : Int
  m_2 : TApi_Instr
  m_5 : TApi_Instr
noncomputable def S_r10_readInstr_12 : LabS :=
  labAt Tryz.f39 12 [(0, .any), (2, .any), (4, hsl_str), (5, .any), (7, .any), (8, .any)] [] [(.loc 2 0, .any), (.loc 5 0, .any)] X_r10_readInstr_12 (fun x => [V.str x.s_0, (V.ptr (.loc 2 0) []), esl_str x.w_4, (V.ptr (.loc 5 0) []), V.str x.f_7, (V.int .i64) x.k_8, e_TApi_Instr x.m_2, e_TApi_Instr x.m_5]) fun l => ⟨dS (at_ l 0), dsl_str (at_ l 2), dS (at_ l 4), dI (at_ l 5), d_TApi_Instr (at_ l 6), d_TApi_Instr (at_ l 7)⟩
structure X_r10_readInstr_13 where
  s_0 : ByteArray
  w_4 : (Sl ByteArray)
  f_7 : ByteArray
  k_8 : Int
  m_2 : TApi_Instr
  m_5 : TApi_Instr
noncomputable def S_r10_readInstr_13 : LabS :=
  labAt Tryz.f39 13 [(0, .any), (2, .any), (4, hsl_str), (5, .any), (7, .any), (8, .any)] [] [(.loc 2 0, .any), (.loc 5 0, .any)] X_r10_readInstr_13 (fun x => [V.str x.s_0, (V.ptr (.loc 2 0) []), esl_str x.w_4, (V.ptr (.loc 5 0) []), V.str x.f_7, (V.int .i64) x.k_8, e_TApi_Instr x.m_2, e_TApi_Instr x.m_5]) fun l => ⟨dS (at_ l 0), dsl_str (at_ l 2), dS (at_ l 4), dI (at_ l 5), d_TApi_Instr (at_ l 6), d_TApi_Instr (at_ l 7)⟩
structure X_r10_readInstr_27 where
  s_0 : ByteArray
  w_4 : (Sl ByteArray)
  f_7 : ByteArray
  k_8 : Int
  x_9 : ByteArray
  n_10 : Int
  m_2 : TApi_Instr
  m_5 : TApi_Instr
noncomputable def S_r10_readInstr_27 : LabS :=
  labAt Tryz.f39 27 [(0, .any), (2, .any), (4, hsl_str), (5, .any), (7, .any), (8, .any), (9, .any), (10, .any)] [] [(.loc 2 0, .any), (.loc 5 0, .any)] X_r10_readInstr_27 (fun x => [V.str x.s_0, (V.ptr (.loc 2 0) []), esl_str x.w_4, (V.ptr (.loc 5 0) []), V.str x.f_7, (V.int .i64) x.k_8, V.str x.x_9, (V.int .i64) x.n_10, e_TApi_Instr x.m_2, e_TApi_Instr x.m_5]) fun l => ⟨dS (at_ l 0), dsl_str (at_ l 2), dS (at_ l 4), dI (at_ l 5), dS (at_ l 6), dI (at_ l 7), d_TApi_Instr (at_ l 8), d_TApi_Instr (at_ l 9)⟩
structure X_r10_readInstr_28 where
  s_0 : ByteArray
  w_4 : (Sl ByteArray)
  f_7 : ByteArray
  k_8 : Int
  x_9 : ByteArray
  n_10 : Int
  m_2 : TApi_Instr
  m_5 : TApi_Instr
noncomputable def S_r10_readInstr_28 : LabS :=
  labAt Tryz.f39 28 [(0, .any), (2, .any), (4, hsl_str), (5, .any), (7, .any), (8, .any), (9, .any), (10, .any)] [] [(.loc 2 0, .any), (.loc 5 0, .any)] X_r10_readInstr_28 (fun x => [V.str x.s_0, (V.ptr (.loc 2 0) []), esl_str x.w_4, (V.ptr (.loc 5 0) []), V.str x.f_7, (V.int .i64) x.k_8, V.str x.x_9, (V.int .i64) x.n_10, e_TApi_Instr x.m_2, e_TApi_Instr x.m_5]) fun l => ⟨dS (at_ l 0), dsl_str (at_ l 2), dS (at_ l 4), dI (at_ l 5), dS (at_ l 6), dI (at_ l 7), d_TApi_Instr (at_ l 8), d_TApi_Instr (at_ l 9)⟩
structure X_r10_readInstr_33 where
  s_0 : ByteArray
  m_2 : TApi_Instr
  m_5 : TApi_Instr
noncomputable def S_r10_readInstr_33 : LabS :=
  labAt Tryz.f39 33 [(0, .any), (2, .any), (5, .any)] [] [(.loc 2 0, .any), (.loc 5 0, .any)] X_r10_readInstr_33 (fun x => [V.str x.s_0, (V.ptr (.loc 2 0) []), (V.ptr (.loc 5 0) []), e_TApi_Instr x.m_2, e_TApi_Instr x.m_5]) fun l => ⟨dS (at_ l 0), d_TApi_Instr (at_ l 3), d_TApi_Instr (at_ l 4)⟩
noncomputable def tt_r10_readInstr_33 (x : X_r10_readInstr_33) : TT Tryz.prog R_r10_readInstr :=
 (.call con_r09_Right x.m_5 fun (y1 : R_r09_Right) =>
 (.ite y1
 (.call con_r10_Line x.m_5 fun (y2 : R_r10_Line) =>
 (.ret (x.m_5, (seq y2 x.s_0))))
 (.ret (x.m_5, false))))
theorem sd_r10_readInstr_33 (x : X_r10_readInstr_33) : (tt_r10_readInstr_33 x).Sides :=
  (TT.s_call fun _ => (TT.s_ite (TT.s_call fun _ => TT.s_ret) TT.s_ret))

noncomputable def D_r10_readInstr_33 : Dyn X_r10_readInstr_33 R_r10_readInstr := .of tt_r10_readInstr_33
theorem ok_r10_readInstr_33 : LabOK J_r10_readInstr S_r10_readInstr_33 D_r10_readInstr_33 :=
  lab_ok mixed_ok labs_nil 4000 (fun x => by kernel_rfl) sd_r10_readInstr_33
noncomputable def tt_r10_readInstr_13 (D_r10_readInstr_12 : Dyn X_r10_readInstr_12 R_r10_readInstr) (x : X_r10_readInstr_13) : TT Tryz.prog R_r10_readInstr :=
 (.jump S_r10_readInstr_12 D_r10_readInstr_12 (X_r10_readInstr_12.mk x.s_0 x.w_4 x.f_7 (IntKind.i64.wrap (x.k_8 + 1)) x.m_2 x.m_5))
theorem sd_r10_readInstr_13 (D_r10_readInstr_12 : Dyn X_r10_readInstr_12 R_r10_readInstr) (x : X_r10_readInstr_13) : (tt_r10_readInstr_13 D_r10_readInstr_12 x).Sides :=
  TT.s_jump

noncomputable def D_r10_readInstr_13 (D_r10_readInstr_12 : Dyn X_r10_readInstr_12 R_r10_readInstr) : Dyn X_r10_readInstr_13 R_r10_readInstr := .of (tt_r10_readInstr_13 D_r10_readInstr_12)
theorem ok_r10_readInstr_13 (D_r10_readInstr_12 : Dyn X_r10_readInstr_12 R_r10_readInstr) (h_12 : LabOK J_r10_readInstr S_r10_readInstr_12 D_r10_readInstr_12) : LabOK J_r10_readInstr S_r10_readInstr_13 (D_r10_readInstr_13 D_r10_readInstr_12) :=
  lab_ok mixed_ok (labs_cons2 h_12 rfl (labs_cons2 ok_r10_readInstr_33 rfl labs_nil)) 4000 (fun x => by kernel_rfl) (sd_r10_readInstr_13 D_r10_readInstr_12)
noncomputable def tt_r10_readInstr_28 (_D_r10_readInstr_12 : Dyn X_r10_readInstr_12 R_r10_readInstr) (D_r10_readInstr_27 : Dyn X_r10_readInstr_27 R_r10_readInstr) (x : X_r10_readInstr_28) : TT Tryz.prog R_r10_readInstr :=
 (.jump S_r10_readInstr_27 D_r10_readInstr_27 (X_r10_readInstr_27.mk x.s_0 x.w_4 x.f_7 x.k_8 x.x_9 (IntKind.i64.wrap (x.n_10 + 1)) x.m_2 x.m_5))
theorem sd_r10_readInstr_28 (D_r10_readInstr_12 : Dyn X_r10_readInstr_12 R_r10_readInstr) (D_r10_readInstr_27 : Dyn X_r10_readInstr_27 R_r10_readInstr) (x : X_r10_readInstr_28) : (tt_r10_readInstr_28 D_r10_readInstr_12 D_r10_readInstr_27 x).Sides :=
  TT.s_jump

noncomputable def D_r10_readInstr_28 (D_r10_readInstr_12 : Dyn X_r10_readInstr_12 R_r10_readInstr) (D_r10_readInstr_27 : Dyn X_r10_readInstr_27 R_r10_readInstr) : Dyn X_r10_readInstr_28 R_r10_readInstr := .of (tt_r10_readInstr_28 D_r10_readInstr_12 D_r10_readInstr_27)
theorem ok_r10_readInstr_28 (D_r10_readInstr_12 : Dyn X_r10_readInstr_12 R_r10_readInstr) (D_r10_readInstr_27 : Dyn X_r10_readInstr_27 R_r10_readInstr) (h_12 : LabOK J_r10_readInstr S_r10_readInstr_12 D_r10_readInstr_12) (h_27 : LabOK J_r10_readInstr S_r10_readInstr_27 D_r10_readInstr_27) : LabOK J_r10_readInstr S_r10_readInstr_28 (D_r10_readInstr_28 D_r10_readInstr_12 D_r10_readInstr_27) :=
  lab_ok mixed_ok (labs_cons2 h_12 rfl (labs_cons2 h_27 rfl (labs_cons2 ok_r10_readInstr_33 rfl (labs_cons2 (ok_r10_readInstr_13 D_r10_readInstr_12 h_12) rfl labs_nil)))) 4000 (fun x => by kernel_rfl) (sd_r10_readInstr_28 D_r10_readInstr_12 D_r10_readInstr_27)
noncomputable def tt_r10_readInstr_27 (D_r10_readInstr_12 : Dyn X_r10_readInstr_12 R_r10_readInstr) (D_r10_readInstr_27 : Dyn X_r10_readInstr_27 R_r10_readInstr) (x : X_r10_readInstr_27) : TT Tryz.prog R_r10_readInstr :=
 (.ite (ilt x.n_10 3)
 (.call con_r10_waits x.n_10 fun (y3 : R_r10_waits) =>
 (.ite (seq y3 x.x_9)
 (.jump S_r10_readInstr_28 (D_r10_readInstr_28 D_r10_readInstr_12 D_r10_readInstr_27) (X_r10_readInstr_28.mk x.s_0 x.w_4 x.f_7 x.k_8 x.x_9 x.n_10 x.m_2 (TApi_Instr.mk x.m_5.Op x.m_5.A x.m_5.B x.m_5.C x.n_10 x.m_5.K)))
 (.jump S_r10_readInstr_28 (D_r10_readInstr_28 D_r10_readInstr_12 D_r10_readInstr_27) (X_r10_readInstr_28.mk x.s_0 x.w_4 x.f_7 x.k_8 x.x_9 x.n_10 x.m_2 x.m_5))))
 (.jump S_r10_readInstr_13 (D_r10_readInstr_13 D_r10_readInstr_12) (X_r10_readInstr_13.mk x.s_0 x.w_4 x.f_7 x.k_8 x.m_2 x.m_5)))
theorem sd_r10_readInstr_27 (D_r10_readInstr_12 : Dyn X_r10_readInstr_12 R_r10_readInstr) (D_r10_readInstr_27 : Dyn X_r10_readInstr_27 R_r10_readInstr) (x : X_r10_readInstr_27) : (tt_r10_readInstr_27 D_r10_readInstr_12 D_r10_readInstr_27 x).Sides :=
  (TT.s_ite (TT.s_call fun _ => (TT.s_ite TT.s_jump TT.s_jump)) TT.s_jump)

noncomputable def D_r10_readInstr_27 (D_r10_readInstr_12 : Dyn X_r10_readInstr_12 R_r10_readInstr) : Dyn X_r10_readInstr_27 R_r10_readInstr := Dyn.loop (tt_r10_readInstr_27 D_r10_readInstr_12)
theorem ok_r10_readInstr_27 (D_r10_readInstr_12 : Dyn X_r10_readInstr_12 R_r10_readInstr) (h_12 : LabOK J_r10_readInstr S_r10_readInstr_12 D_r10_readInstr_12) : LabOK J_r10_readInstr S_r10_readInstr_27 (D_r10_readInstr_27 D_r10_readInstr_12) :=
  loop_ok fun D_r10_readInstr_27 h_27 => lab_ok mixed_ok (labs_cons2 h_12 rfl (labs_cons2 h_27 rfl (labs_cons2 ok_r10_readInstr_33 rfl (labs_cons2 (ok_r10_readInstr_13 D_r10_readInstr_12 h_12) rfl (labs_cons2 (ok_r10_readInstr_28 D_r10_readInstr_12 D_r10_readInstr_27 h_12 h_27) rfl labs_nil))))) 4000 (fun x => by kernel_rfl) (sd_r10_readInstr_27 D_r10_readInstr_12 D_r10_readInstr_27)
noncomputable def tt_r10_readInstr_12 (D_r10_readInstr_12 : Dyn X_r10_readInstr_12 R_r10_readInstr) (x : X_r10_readInstr_12) : TT Tryz.prog R_r10_readInstr :=
 (.ite (ilt x.k_8 (((ByteArray.size x.f_7) : Nat) : Int))
 (.need (inb (IntKind.i64.wrap (x.k_8 + 1)) x.w_4.n) <|
 (.need (inb x.k_8 (ByteArray.size x.f_7)) <|
 (.ite (ieq (bt x.f_7 (Int.toNat x.k_8)) 65)
 (.call con_r10_small ((x.w_4.get (Int.toNat (IntKind.i64.wrap (x.k_8 + 1)))), 1) fun (y2 : R_r10_small) =>
 (.jump S_r10_readInstr_13 (D_r10_readInstr_13 D_r10_readInstr_12) (X_r10_readInstr_13.mk x.s_0 x.w_4 x.f_7 x.k_8 x.m_2 (TApi_Instr.mk x.m_5.Op y2 x.m_5.B x.m_5.C x.m_5.D x.m_5.K))))
 (.ite (ieq (bt x.f_7 (Int.toNat x.k_8)) 66)
 (.call con_r10_small ((x.w_4.get (Int.toNat (IntKind.i64.wrap (x.k_8 + 1)))), 1) fun (y2 : R_r10_small) =>
 (.jump S_r10_readInstr_13 (D_r10_readInstr_13 D_r10_readInstr_12) (X_r10_readInstr_13.mk x.s_0 x.w_4 x.f_7 x.k_8 x.m_2 (TApi_Instr.mk x.m_5.Op x.m_5.A y2 x.m_5.C x.m_5.D x.m_5.K))))
 (.ite (ieq (bt x.f_7 (Int.toNat x.k_8)) 82)
 (.call con_r10_small ((x.w_4.get (Int.toNat (IntKind.i64.wrap (x.k_8 + 1)))), 1) fun (y2 : R_r10_small) =>
 (.jump S_r10_readInstr_13 (D_r10_readInstr_13 D_r10_readInstr_12) (X_r10_readInstr_13.mk x.s_0 x.w_4 x.f_7 x.k_8 x.m_2 (TApi_Instr.mk x.m_5.Op x.m_5.A x.m_5.B y2 x.m_5.D x.m_5.K))))
 (.ite (ieq (bt x.f_7 (Int.toNat x.k_8)) 67)
 (.call con_r10_small ((x.w_4.get (Int.toNat (IntKind.i64.wrap (x.k_8 + 1)))), 0) fun (y2 : R_r10_small) =>
 (.jump S_r10_readInstr_13 (D_r10_readInstr_13 D_r10_readInstr_12) (X_r10_readInstr_13.mk x.s_0 x.w_4 x.f_7 x.k_8 x.m_2 (TApi_Instr.mk x.m_5.Op x.m_5.A x.m_5.B y2 x.m_5.D x.m_5.K))))
 (.ite (ieq (bt x.f_7 (Int.toNat x.k_8)) 68)
 (.jump S_r10_readInstr_27 (D_r10_readInstr_27 D_r10_readInstr_12) (X_r10_readInstr_27.mk x.s_0 x.w_4 x.f_7 x.k_8 (x.w_4.get (Int.toNat (IntKind.i64.wrap (x.k_8 + 1)))) 0 x.m_2 (TApi_Instr.mk x.m_5.Op x.m_5.A x.m_5.B x.m_5.C 3 x.m_5.K)))
 (.ite (ieq (bt x.f_7 (Int.toNat x.k_8)) 75)
 (.call con_r10_value (x.w_4.get (Int.toNat (IntKind.i64.wrap (x.k_8 + 1)))) fun (y2 : R_r10_value) =>
 (.jump S_r10_readInstr_13 (D_r10_readInstr_13 D_r10_readInstr_12) (X_r10_readInstr_13.mk x.s_0 x.w_4 x.f_7 x.k_8 x.m_2 (TApi_Instr.mk x.m_5.Op x.m_5.A x.m_5.B x.m_5.C x.m_5.D y2))))
 (.jump S_r10_readInstr_13 (D_r10_readInstr_13 D_r10_readInstr_12) (X_r10_readInstr_13.mk x.s_0 x.w_4 x.f_7 x.k_8 x.m_2 x.m_5))))))))))
 (.jump S_r10_readInstr_33 D_r10_readInstr_33 (X_r10_readInstr_33.mk x.s_0 x.m_2 x.m_5)))
theorem sd_r10_readInstr_12 (D_r10_readInstr_12 : Dyn X_r10_readInstr_12 R_r10_readInstr) (x : X_r10_readInstr_12) : (tt_r10_readInstr_12 D_r10_readInstr_12 x).Sides :=
  (TT.s_ite (TT.s_need (TT.s_need (TT.s_ite (TT.s_call fun _ => TT.s_jump) (TT.s_ite (TT.s_call fun _ => TT.s_jump) (TT.s_ite (TT.s_call fun _ => TT.s_jump) (TT.s_ite (TT.s_call fun _ => TT.s_jump) (TT.s_ite TT.s_jump (TT.s_ite (TT.s_call fun _ => TT.s_jump) TT.s_jump)))))))) TT.s_jump)

noncomputable def D_r10_readInstr_12 : Dyn X_r10_readInstr_12 R_r10_readInstr := Dyn.loop tt_r10_readInstr_12
theorem ok_r10_readInstr_12 : LabOK J_r10_readInstr S_r10_readInstr_12 D_r10_readInstr_12 :=
  loop_ok fun D_r10_readInstr_12 h_12 => lab_ok mixed_ok (labs_cons2 h_12 rfl (labs_cons2 ok_r10_readInstr_33 rfl (labs_cons2 (ok_r10_readInstr_13 D_r10_readInstr_12 h_12) rfl (labs_cons2 (ok_r10_readInstr_27 D_r10_readInstr_12 h_12) rfl labs_nil)))) 4000 (fun x => by kernel_rfl) (sd_r10_readInstr_12 D_r10_readInstr_12)
noncomputable def tt_r10_readInstr_11 (x : X_r10_readInstr_11) : TT Tryz.prog R_r10_readInstr :=
 (.jump S_r10_readInstr_12 D_r10_readInstr_12 (X_r10_readInstr_12.mk x.s_0 x.w_4 x.f_7 0 x.m_2 x.m_5))
theorem sd_r10_readInstr_11 (x : X_r10_readInstr_11) : (tt_r10_readInstr_11 x).Sides :=
  TT.s_jump

noncomputable def D_r10_readInstr_11 : Dyn X_r10_readInstr_11 R_r10_readInstr := .of tt_r10_readInstr_11
theorem ok_r10_readInstr_11 : LabOK J_r10_readInstr S_r10_readInstr_11 D_r10_readInstr_11 :=
  lab_ok mixed_ok (labs_cons2 ok_r10_readInstr_33 rfl (labs_cons2 ok_r10_readInstr_12 rfl labs_nil)) 4000 (fun x => by kernel_rfl) sd_r10_readInstr_11
noncomputable def tt_r10_readInstr_8 (x : X_r10_readInstr_8) : TT Tryz.prog R_r10_readInstr :=
 (.call con_r10_names x.m_5.Op fun (y1 : R_r10_names) =>
 (.ite (ieq x.m_5.Op 0)
 (.ret (x.m_5, false))
 (.ite (!(ieq ((x.w_4.n : Nat) : Int) (IntKind.i64.wrap ((1 : Int) + (((ByteArray.size y1) : Nat) : Int)))))
 (.ret (x.m_5, false))
 (.jump S_r10_readInstr_11 D_r10_readInstr_11 (X_r10_readInstr_11.mk x.s_0 x.w_4 y1 x.m_2 x.m_5)))))
theorem sd_r10_readInstr_8 (x : X_r10_readInstr_8) : (tt_r10_readInstr_8 x).Sides :=
  (TT.s_call fun _ => (TT.s_ite TT.s_ret (TT.s_ite TT.s_ret TT.s_jump)))

noncomputable def D_r10_readInstr_8 : Dyn X_r10_readInstr_8 R_r10_readInstr := .of tt_r10_readInstr_8
theorem ok_r10_readInstr_8 : LabOK J_r10_readInstr S_r10_readInstr_8 D_r10_readInstr_8 :=
  lab_ok mixed_ok (labs_cons2 ok_r10_readInstr_33 rfl (labs_cons2 ok_r10_readInstr_12 rfl (labs_cons2 ok_r10_readInstr_11 rfl labs_nil))) 4000 (fun x => by kernel_rfl) sd_r10_readInstr_8
noncomputable def tt_r10_readInstr_5 (D_r10_readInstr_4 : Dyn X_r10_readInstr_4 R_r10_readInstr) (x : X_r10_readInstr_5) : TT Tryz.prog R_r10_readInstr :=
 (.jump S_r10_readInstr_4 D_r10_readInstr_4 (X_r10_readInstr_4.mk x.s_0 x.w_4 (IntKind.i64.wrap (x.op_6 + 1)) x.m_2 x.m_5))
theorem sd_r10_readInstr_5 (D_r10_readInstr_4 : Dyn X_r10_readInstr_4 R_r10_readInstr) (x : X_r10_readInstr_5) : (tt_r10_readInstr_5 D_r10_readInstr_4 x).Sides :=
  TT.s_jump

noncomputable def D_r10_readInstr_5 (D_r10_readInstr_4 : Dyn X_r10_readInstr_4 R_r10_readInstr) : Dyn X_r10_readInstr_5 R_r10_readInstr := .of (tt_r10_readInstr_5 D_r10_readInstr_4)
theorem ok_r10_readInstr_5 (D_r10_readInstr_4 : Dyn X_r10_readInstr_4 R_r10_readInstr) (h_4 : LabOK J_r10_readInstr S_r10_readInstr_4 D_r10_readInstr_4) : LabOK J_r10_readInstr S_r10_readInstr_5 (D_r10_readInstr_5 D_r10_readInstr_4) :=
  lab_ok mixed_ok (labs_cons2 h_4 rfl (labs_cons2 ok_r10_readInstr_33 rfl (labs_cons2 ok_r10_readInstr_12 rfl (labs_cons2 ok_r10_readInstr_11 rfl (labs_cons2 ok_r10_readInstr_8 rfl labs_nil))))) 4000 (fun x => by kernel_rfl) (sd_r10_readInstr_5 D_r10_readInstr_4)
noncomputable def tt_r10_readInstr_4 (D_r10_readInstr_4 : Dyn X_r10_readInstr_4 R_r10_readInstr) (x : X_r10_readInstr_4) : TT Tryz.prog R_r10_readInstr :=
 (.ite (ile x.op_6 25)
 (.call con_r09_Name x.op_6 fun (y2 : R_r09_Name) =>
 (.need (inb 0 x.w_4.n) <|
 (.ite (seq y2 (x.w_4.get (Int.toNat 0)))
 (.jump S_r10_readInstr_5 (D_r10_readInstr_5 D_r10_readInstr_4) (X_r10_readInstr_5.mk x.s_0 x.w_4 x.op_6 x.m_2 (TApi_Instr.mk x.op_6 x.m_5.A x.m_5.B x.m_5.C x.m_5.D x.m_5.K)))
 (.jump S_r10_readInstr_5 (D_r10_readInstr_5 D_r10_readInstr_4) (X_r10_readInstr_5.mk x.s_0 x.w_4 x.op_6 x.m_2 x.m_5)))))
 (.jump S_r10_readInstr_8 D_r10_readInstr_8 (X_r10_readInstr_8.mk x.s_0 x.w_4 x.m_2 x.m_5)))
theorem sd_r10_readInstr_4 (D_r10_readInstr_4 : Dyn X_r10_readInstr_4 R_r10_readInstr) (x : X_r10_readInstr_4) : (tt_r10_readInstr_4 D_r10_readInstr_4 x).Sides :=
  (TT.s_ite (TT.s_call fun _ => (TT.s_need (TT.s_ite TT.s_jump TT.s_jump))) TT.s_jump)

noncomputable def D_r10_readInstr_4 : Dyn X_r10_readInstr_4 R_r10_readInstr := Dyn.loop tt_r10_readInstr_4
theorem ok_r10_readInstr_4 : LabOK J_r10_readInstr S_r10_readInstr_4 D_r10_readInstr_4 :=
  loop_ok fun D_r10_readInstr_4 h_4 => lab_ok mixed_ok (labs_cons2 h_4 rfl (labs_cons2 ok_r10_readInstr_33 rfl (labs_cons2 ok_r10_readInstr_12 rfl (labs_cons2 ok_r10_readInstr_11 rfl (labs_cons2 ok_r10_readInstr_8 rfl (labs_cons2 (ok_r10_readInstr_5 D_r10_readInstr_4 h_4) rfl labs_nil)))))) 4000 (fun x => by kernel_rfl) (sd_r10_readInstr_4 D_r10_readInstr_4)
noncomputable def tt_r10_readInstr (x : X_r10_readInstr) : TT Tryz.prog R_r10_readInstr :=
 (.call con_r10_words x fun (y1 : R_r10_words) =>
 (.jump S_r10_readInstr_4 D_r10_readInstr_4 (X_r10_readInstr_4.mk x y1 1 (TApi_Instr.mk 0 0 0 0 0 0) (TApi_Instr.mk 0 0 0 0 0 0))))
theorem sd_r10_readInstr (x : X_r10_readInstr) : (tt_r10_readInstr x).Sides :=
  (TT.s_call fun _ => TT.s_jump)

noncomputable def D_r10_readInstr : Dyn X_r10_readInstr R_r10_readInstr := .of tt_r10_readInstr
noncomputable def con_r10_readInstr : Con Tryz.prog :=
  mkCon 39 J_r10_readInstr S_r10_readInstr D_r10_readInstr D_r10_readInstr (fun _ _ h => h) 1 0 [.any] (by kernel_rfl) (by kernel_rfl) (by kernel_rfl) (lab_ok mixed_ok (labs_cons2 ok_r10_readInstr_33 rfl (labs_cons2 ok_r10_readInstr_12 rfl (labs_cons2 ok_r10_readInstr_11 rfl (labs_cons2 ok_r10_readInstr_8 rfl (labs_cons2 ok_r10_readInstr_4 rfl labs_nil))))) 4000 (fun x => by kernel_rfl) sd_r10_readInstr) rfl rfl (fun _ => rfl) (by kernel_rfl) rfl (fun _ => rfl) (fun x y _ => by kernel_rfl)

/-! rondeauref10.Read (r10_Read) -/
abbrev X_r10_Read : Type := ByteArray
abbrev R_r10_Read : Type := TApi_Program × Int
noncomputable def J_r10_Read : Job Tryz.prog :=
  job Tryz.prog Tryz.f19 115 [(29, 1), (34, 1), (57, 1), (70, 1), (71, 1), (99, 1)] [(4, [.close (.loc 95 0), .close (.loc 91 0), .close (.loc 82 0), .close (.loc 40 0)]), (5, [.close (.loc 95 0), .close (.loc 91 0), .close (.loc 82 0), .close (.loc 40 0)]), (6, [.close (.loc 95 0), .close (.loc 91 0), .close (.loc 82 0), .close (.loc 40 0)]), (7, [.close (.loc 95 0), .close (.loc 91 0), .close (.loc 82 0), .close (.loc 40 0)]), (8, [.close (.loc 95 0), .close (.loc 91 0), .close (.loc 82 0), .close (.loc 40 0)]), (9, [.close (.loc 95 0), .close (.loc 91 0), .close (.loc 82 0), .close (.loc 40 0)]), (10, [.close (.loc 95 0), .close (.loc 91 0), .close (.loc 82 0), .close (.loc 40 0)]), (11, [.close (.loc 95 0), .close (.loc 91 0), .close (.loc 82 0), .close (.loc 40 0)]), (12, [.close (.loc 95 0), .close (.loc 91 0), .close (.loc 82 0), .close (.loc 40 0)]), (13, [.close (.loc 95 0), .close (.loc 91 0), .close (.loc 82 0), .close (.loc 40 0)]), (14, [.close (.loc 95 0), .close (.loc 91 0), .close (.loc 82 0), .close (.loc 40 0)]), (15, [.close (.loc 95 0), .close (.loc 91 0), .close (.loc 82 0), .close (.loc 40 0)]), (16, [.close (.loc 95 0), .close (.loc 91 0), .close (.loc 82 0), .close (.loc 40 0)]), (17, [.close (.loc 95 0), .close (.loc 91 0), .close (.loc 82 0), .close (.loc 40 0)]), (18, [.close (.loc 95 0), .close (.loc 91 0), .close (.loc 82 0), .close (.loc 40 0)]), (19, [.close (.loc 95 0), .close (.loc 91 0), .close (.loc 82 0), .close (.loc 40 0)]), (20, [.close (.loc 95 0), .close (.loc 91 0), .close (.loc 82 0), .close (.loc 40 0)]), (21, [.close (.loc 95 0), .close (.loc 91 0), .close (.loc 82 0), .close (.loc 40 0)]), (22, [.frz (.loc 4 0) [.fld 1 1], .close (.loc 95 0), .close (.loc 91 0), .close (.loc 82 0), .close (.loc 40 0)])] [(17, [.opn (.loc 4 0) [.fld 1 1] 91, .opn (.loc 4 0) [.fld 1 1] 95])] [.close (.loc 95 0), .close (.loc 91 0), .close (.loc 82 0), .close (.loc 40 0)] [sh_TApi_Program, .any] [] [con_r10_readInstr, con_r10_readRing] R_r10_Read [(0, [⟨.loc 91 0, .loc 4 0, [.fld 1 1], none, none⟩, ⟨.loc 95 0, .loc 4 0, [.fld 1 1], none, none⟩]), (4, [⟨.loc 91 0, .loc 4 0, [.fld 1 1], none, none⟩, ⟨.loc 95 0, .loc 4 0, [.fld 1 1], none, none⟩]), (5, [⟨.loc 91 0, .loc 4 0, [.fld 1 1], none, none⟩, ⟨.loc 95 0, .loc 4 0, [.fld 1 1], none, none⟩]), (18, [⟨.loc 91 0, .loc 4 0, [.fld 1 1], none, none⟩, ⟨.loc 95 0, .loc 4 0, [.fld 1 1], none, none⟩]), (20, [⟨.loc 91 0, .loc 4 0, [.fld 1 1], none, none⟩, ⟨.loc 95 0, .loc 4 0, [.fld 1 1], none, none⟩])] fun y => [V.tup (V.cons (e_TApi_Program y.1) (V.cons ((V.int .i64) y.2) (V.unit)))]
noncomputable def S_r10_Read : LabS :=
  lab0 Tryz.f19 1 0 X_r10_Read (fun x => [V.str x]) fun l => (dS (at_ l 0))
structure X_r10_Read_4 where
  s_0 : ByteArray
  at_5 : Int
  line_6 : Int
  i_7 : Int
  m_2 : TApi_Program
  m_4 : TApi_Program
noncomputable def S_r10_Read_4 : LabS :=
  labAt Tryz.f19 4 [(0, .any), (2, .any), (4, .any), (5, .any), (6, .any), (7, .any)] [] [(.loc 2 0, sh_TApi_Program), (.loc 4 0, sh_TApi_Program_0_oA1)] X_r10_Read_4 (fun x => [V.str x.s_0, (V.ptr (.loc 2 0) []), (V.ptr (.loc 4 0) []), (V.int .i64) x.at_5, (V.int .i64) x.line_6, (V.int .i64) x.i_7, e_TApi_Program x.m_2, e_TApi_Program_0_oA1 x.m_4]) fun l => ⟨dS (at_ l 0), dI (at_ l 3), dI (at_ l 4), dI (at_ l 5), d_TApi_Program (at_ l 6), d_TApi_Program (at_ l 7)⟩
structure X_r10_Read_5 where
  s_0 : ByteArray
  at_5 : Int
  line_6 : Int
  i_7 : Int
  m_2 : TApi_Program
  m_4 : TApi_Program
noncomputable def S_r10_Read_5 : LabS :=
  labAt Tryz.f19 5 [(0, .any), (2, .any), (4, .any), (5, .any), (6, .any), (7, .any)] [] [(.loc 2 0, sh_TApi_Program), (.loc 4 0, sh_TApi_Program_0_oA1)] X_r10_Read_5 (fun x => [V.str x.s_0, (V.ptr (.loc 2 0) []), (V.ptr (.loc 4 0) []), (V.int .i64) x.at_5, (V.int .i64) x.line_6, (V.int .i64) x.i_7, e_TApi_Program x.m_2, e_TApi_Program_0_oA1 x.m_4]) fun l => ⟨dS (at_ l 0), dI (at_ l 3), dI (at_ l 4), dI (at_ l 5), d_TApi_Program (at_ l 6), d_TApi_Program (at_ l 7)⟩
structure X_r10_Read_18 where
  s_0 : ByteArray
  line_6 : Int
  i_7 : Int
  m_2 : TApi_Program
  m_4 : TApi_Program
noncomputable def S_r10_Read_18 : LabS :=
  labAt Tryz.f19 18 [(0, .any), (2, .any), (4, .any), (6, .any), (7, .any)] [] [(.loc 2 0, sh_TApi_Program), (.loc 4 0, sh_TApi_Program_0_oA1)] X_r10_Read_18 (fun x => [V.str x.s_0, (V.ptr (.loc 2 0) []), (V.ptr (.loc 4 0) []), (V.int .i64) x.line_6, (V.int .i64) x.i_7, e_TApi_Program x.m_2, e_TApi_Program_0_oA1 x.m_4]) fun l => ⟨dS (at_ l 0), dI (at_ l 3), dI (at_ l 4), d_TApi_Program (at_ l 5), d_TApi_Program (at_ l 6)⟩
structure X_r10_Read_20 where
  s_0 : ByteArray
  at_5 : Int
  line_6 : Int
  m_2 : TApi_Program
  m_4 : TApi_Program
noncomputable def S_r10_Read_20 : LabS :=
  labAt Tryz.f19 20 [(0, .any), (2, .any), (4, .any), (5, .any), (6, .any)] [] [(.loc 2 0, sh_TApi_Program), (.loc 4 0, sh_TApi_Program_0_oA1)] X_r10_Read_20 (fun x => [V.str x.s_0, (V.ptr (.loc 2 0) []), (V.ptr (.loc 4 0) []), (V.int .i64) x.at_5, (V.int .i64) x.line_6, e_TApi_Program x.m_2, e_TApi_Program_0_oA1 x.m_4]) fun l => ⟨dS (at_ l 0), dI (at_ l 3), dI (at_ l 4), d_TApi_Program (at_ l 5), d_TApi_Program (at_ l 6)⟩
noncomputable def tt_r10_Read_20 (x : X_r10_Read_20) : TT Tryz.prog R_r10_Read :=
 (.ite (ilt x.at_5 (((ByteArray.size x.s_0) : Nat) : Int))
 (.ret ((TApi_Program.mk (Sl.mk true 0 (fun _i1 => (TApi_Ring.mk 0 0 0))) (Sl.mk true 0 (fun _i1 => (Sl.mk true 0 (fun _i2 => (TApi_Instr.mk 0 0 0 0 0 0)))))), x.line_6))
 (.side (∀ i1 : Nat, ((i1 < x.m_4.Threads.n) → (true = true))) <|
 (.ret (x.m_4, 0))))
theorem sd_r10_Read_20 (x : X_r10_Read_20) : (tt_r10_Read_20 x).Sides :=
  (TT.s_ite TT.s_ret (TT.s_side (fun _ _ => rfl) TT.s_ret))

noncomputable def D_r10_Read_20 : Dyn X_r10_Read_20 R_r10_Read := .of tt_r10_Read_20
theorem ok_r10_Read_20 : LabOK J_r10_Read S_r10_Read_20 D_r10_Read_20 :=
  lab_ok mixed_ok labs_nil 4000 (fun x => by kernel_rfl) sd_r10_Read_20
noncomputable def tt_r10_Read_5 (D_r10_Read_4 : Dyn X_r10_Read_4 R_r10_Read) (x : X_r10_Read_5) : TT Tryz.prog R_r10_Read :=
 (.jump S_r10_Read_4 D_r10_Read_4 (X_r10_Read_4.mk x.s_0 x.at_5 x.line_6 (IntKind.i64.wrap (x.i_7 + 1)) x.m_2 x.m_4))
theorem sd_r10_Read_5 (D_r10_Read_4 : Dyn X_r10_Read_4 R_r10_Read) (x : X_r10_Read_5) : (tt_r10_Read_5 D_r10_Read_4 x).Sides :=
  TT.s_jump

noncomputable def D_r10_Read_5 (D_r10_Read_4 : Dyn X_r10_Read_4 R_r10_Read) : Dyn X_r10_Read_5 R_r10_Read := .of (tt_r10_Read_5 D_r10_Read_4)
theorem ok_r10_Read_5 (D_r10_Read_4 : Dyn X_r10_Read_4 R_r10_Read) (h_4 : LabOK J_r10_Read S_r10_Read_4 D_r10_Read_4) : LabOK J_r10_Read S_r10_Read_5 (D_r10_Read_5 D_r10_Read_4) :=
  lab_ok mixed_ok (labs_cons2 h_4 rfl (labs_cons2 ok_r10_Read_20 rfl labs_nil)) 4000 (fun x => by kernel_rfl) (sd_r10_Read_5 D_r10_Read_4)
noncomputable def tt_r10_Read_18 (D_r10_Read_4 : Dyn X_r10_Read_4 R_r10_Read) (x : X_r10_Read_18) : TT Tryz.prog R_r10_Read :=
 (.jump S_r10_Read_5 (D_r10_Read_5 D_r10_Read_4) (X_r10_Read_5.mk x.s_0 (IntKind.i64.wrap (x.i_7 + 1)) (IntKind.i64.wrap (x.line_6 + 1)) x.i_7 x.m_2 x.m_4))
theorem sd_r10_Read_18 (D_r10_Read_4 : Dyn X_r10_Read_4 R_r10_Read) (x : X_r10_Read_18) : (tt_r10_Read_18 D_r10_Read_4 x).Sides :=
  TT.s_jump

noncomputable def D_r10_Read_18 (D_r10_Read_4 : Dyn X_r10_Read_4 R_r10_Read) : Dyn X_r10_Read_18 R_r10_Read := .of (tt_r10_Read_18 D_r10_Read_4)
theorem ok_r10_Read_18 (D_r10_Read_4 : Dyn X_r10_Read_4 R_r10_Read) (h_4 : LabOK J_r10_Read S_r10_Read_4 D_r10_Read_4) : LabOK J_r10_Read S_r10_Read_18 (D_r10_Read_18 D_r10_Read_4) :=
  lab_ok mixed_ok (labs_cons2 h_4 rfl (labs_cons2 ok_r10_Read_20 rfl (labs_cons2 (ok_r10_Read_5 D_r10_Read_4 h_4) rfl labs_nil))) 4000 (fun x => by kernel_rfl) (sd_r10_Read_18 D_r10_Read_4)
def tokP_r10_Read_18 (x : X_r10_Read_18) (i : Nat) : Prop := [V.str x.s_0, (V.ptr (.loc 2 0) []), (V.ptr (.loc 4 0) []), (V.int .i64) x.line_6, (V.int .i64) x.i_7, e_TApi_Program x.m_2, e_Prog_tk (tkAt i) x.m_4] = S_r10_Read_18.enc x
theorem tokP_r10_Read_18_ok (x : X_r10_Read_18) (i : Nat) : tokP_r10_Read_18 x i := by
  unfold tokP_r10_Read_18
  rw [tkAt_eq]
  rfl
noncomputable def tt_r10_Read_4 (D_r10_Read_4 : Dyn X_r10_Read_4 R_r10_Read) (x : X_r10_Read_4) : TT Tryz.prog R_r10_Read :=
 (.ite (ilt x.i_7 (((ByteArray.size x.s_0) : Nat) : Int))
 (.need (inb x.i_7 (ByteArray.size x.s_0)) <|
 (.ite (!(ieq (bt x.s_0 (Int.toNat x.i_7)) 10))
 (.jump S_r10_Read_5 (D_r10_Read_5 D_r10_Read_4) (X_r10_Read_5.mk x.s_0 x.at_5 x.line_6 x.i_7 x.m_2 x.m_4))
 (.need ((upto x.i_7 (ByteArray.size x.s_0)) && (upto x.at_5 (Int.toNat x.i_7))) <|
 (.call con_r10_readRing (ByteArray.extract x.s_0 (Int.toNat x.at_5) (Int.toNat x.i_7)) fun (y2 : R_r10_readRing) =>
 (.call con_r10_readInstr (ByteArray.extract x.s_0 (Int.toNat x.at_5) (Int.toNat x.i_7)) fun (y3 : R_r10_readInstr) =>
 (.need ((true && true) && (Nat.beq x.m_4.Threads.n x.m_4.Threads.n)) <|
 (.ite y2.snd
 (.ite (ieq ((x.m_4.Threads.n : Nat) : Int) 0)
 (.ite (ilt ((x.m_4.Rings.n : Nat) : Int) 8)
 (.need (true && (room (x.m_4.Rings.n + 1) 24)) <|
 (.jump S_r10_Read_18 (D_r10_Read_18 D_r10_Read_4) (X_r10_Read_18.mk x.s_0 x.line_6 x.i_7 x.m_2 (TApi_Program.mk (Sl.mk (cond (Nat.beq 1 0) x.m_4.Rings.nil false) (x.m_4.Rings.n + 1) (fun i4 => (TApi_Ring.mk (cond (Nat.blt i4 x.m_4.Rings.n) (x.m_4.Rings.get i4).Kind y2.fst.Kind) (cond (Nat.blt i4 x.m_4.Rings.n) (x.m_4.Rings.get i4).Cap y2.fst.Cap) (cond (Nat.blt i4 x.m_4.Rings.n) (x.m_4.Rings.get i4).Readers y2.fst.Readers)))) x.m_4.Threads))))
 (.ite (seq (ByteArray.extract x.s_0 (Int.toNat x.at_5) (Int.toNat x.i_7)) (ByteArray.mk #[116, 104, 114, 101, 97, 100]))
 (.ite (ilt ((x.m_4.Threads.n : Nat) : Int) 8)
 (.need (true && (room (x.m_4.Threads.n + 1) 24)) <|
 (.jump S_r10_Read_18 (D_r10_Read_18 D_r10_Read_4) (X_r10_Read_18.mk x.s_0 x.line_6 x.i_7 x.m_2 (TApi_Program.mk x.m_4.Rings (Sl.mk (cond (Nat.beq 1 0) x.m_4.Threads.nil false) (x.m_4.Threads.n + 1) (fun i4 => (Sl.mk (cond (Nat.blt i4 x.m_4.Threads.n) (x.m_4.Threads.get i4).nil true) (cond (Nat.blt i4 x.m_4.Threads.n) (x.m_4.Threads.get i4).n (0 : Nat)) (fun i5 => (TApi_Instr.mk (cond (Nat.blt i4 x.m_4.Threads.n) ((x.m_4.Threads.get i4).get i5).Op (0 : Int)) (cond (Nat.blt i4 x.m_4.Threads.n) ((x.m_4.Threads.get i4).get i5).A (0 : Int)) (cond (Nat.blt i4 x.m_4.Threads.n) ((x.m_4.Threads.get i4).get i5).B (0 : Int)) (cond (Nat.blt i4 x.m_4.Threads.n) ((x.m_4.Threads.get i4).get i5).C (0 : Int)) (cond (Nat.blt i4 x.m_4.Threads.n) ((x.m_4.Threads.get i4).get i5).D (0 : Int)) (cond (Nat.blt i4 x.m_4.Threads.n) ((x.m_4.Threads.get i4).get i5).K (0 : Int)))))))))))
 (.ite y3.snd
 (.ite (ilt 0 ((x.m_4.Threads.n : Nat) : Int))
 (.need (inb (IntKind.i64.wrap (((x.m_4.Threads.n : Nat) : Int) - 1)) x.m_4.Threads.n) <|
 (.need ((Nat.beq x.m_4.Threads.n x.m_4.Threads.n) && true) <|
 (.ite (ilt (((x.m_4.Threads.get ((0 : Nat) + (Int.toNat (IntKind.i64.wrap (((x.m_4.Threads.n : Nat) : Int) - 1))))).n : Nat) : Int) 256)
 (.need ((true && true) && (Nat.beq x.m_4.Threads.n x.m_4.Threads.n)) <|
 (.need (inb (IntKind.i64.wrap (((x.m_4.Threads.n : Nat) : Int) - 1)) x.m_4.Threads.n) <|
 (.need ((Nat.beq x.m_4.Threads.n x.m_4.Threads.n) && true) <|
 (.need (true && (room ((x.m_4.Threads.get ((0 : Nat) + (Int.toNat (IntKind.i64.wrap (((x.m_4.Threads.n : Nat) : Int) - 1))))).n + 1) 48)) <|
 (.need (inb (IntKind.i64.wrap (((x.m_4.Threads.n : Nat) : Int) - 1)) x.m_4.Threads.n) <|
 (.need ((Nat.beq x.m_4.Threads.n x.m_4.Threads.n) && true) <|
 (.need ((true && true) && (Nat.beq x.m_4.Threads.n x.m_4.Threads.n)) <|
 (.jumpP (tokP_r10_Read_18 (X_r10_Read_18.mk x.s_0 x.line_6 x.i_7 x.m_2 (TApi_Program.mk x.m_4.Rings (Sl.mk x.m_4.Threads.nil x.m_4.Threads.n (fun i4 => (Sl.mk (cond (Nat.beq i4 ((0 : Nat) + (Int.toNat (IntKind.i64.wrap (((x.m_4.Threads.n : Nat) : Int) - 1))))) (cond (Nat.beq 1 0) (x.m_4.Threads.get ((0 : Nat) + (Int.toNat (IntKind.i64.wrap (((x.m_4.Threads.n : Nat) : Int) - 1))))).nil false) (cond (Nat.beq i4 ((0 : Nat) + (Int.toNat (IntKind.i64.wrap (((x.m_4.Threads.n : Nat) : Int) - 1))))) (x.m_4.Threads.get ((0 : Nat) + (Int.toNat (IntKind.i64.wrap (((x.m_4.Threads.n : Nat) : Int) - 1))))).nil (x.m_4.Threads.get i4).nil)) (cond (Nat.beq i4 ((0 : Nat) + (Int.toNat (IntKind.i64.wrap (((x.m_4.Threads.n : Nat) : Int) - 1))))) ((x.m_4.Threads.get ((0 : Nat) + (Int.toNat (IntKind.i64.wrap (((x.m_4.Threads.n : Nat) : Int) - 1))))).n + 1) (cond (Nat.beq i4 ((0 : Nat) + (Int.toNat (IntKind.i64.wrap (((x.m_4.Threads.n : Nat) : Int) - 1))))) (x.m_4.Threads.get ((0 : Nat) + (Int.toNat (IntKind.i64.wrap (((x.m_4.Threads.n : Nat) : Int) - 1))))).n (x.m_4.Threads.get i4).n)) (fun i5 => (TApi_Instr.mk (cond (Nat.beq i4 ((0 : Nat) + (Int.toNat (IntKind.i64.wrap (((x.m_4.Threads.n : Nat) : Int) - 1))))) (cond (Nat.blt i5 (x.m_4.Threads.get ((0 : Nat) + (Int.toNat (IntKind.i64.wrap (((x.m_4.Threads.n : Nat) : Int) - 1))))).n) ((x.m_4.Threads.get ((0 : Nat) + (Int.toNat (IntKind.i64.wrap (((x.m_4.Threads.n : Nat) : Int) - 1))))).get i5).Op y3.fst.Op) (cond (Nat.beq i4 ((0 : Nat) + (Int.toNat (IntKind.i64.wrap (((x.m_4.Threads.n : Nat) : Int) - 1))))) ((x.m_4.Threads.get ((0 : Nat) + (Int.toNat (IntKind.i64.wrap (((x.m_4.Threads.n : Nat) : Int) - 1))))).get i5).Op ((x.m_4.Threads.get i4).get i5).Op)) (cond (Nat.beq i4 ((0 : Nat) + (Int.toNat (IntKind.i64.wrap (((x.m_4.Threads.n : Nat) : Int) - 1))))) (cond (Nat.blt i5 (x.m_4.Threads.get ((0 : Nat) + (Int.toNat (IntKind.i64.wrap (((x.m_4.Threads.n : Nat) : Int) - 1))))).n) ((x.m_4.Threads.get ((0 : Nat) + (Int.toNat (IntKind.i64.wrap (((x.m_4.Threads.n : Nat) : Int) - 1))))).get i5).A y3.fst.A) (cond (Nat.beq i4 ((0 : Nat) + (Int.toNat (IntKind.i64.wrap (((x.m_4.Threads.n : Nat) : Int) - 1))))) ((x.m_4.Threads.get ((0 : Nat) + (Int.toNat (IntKind.i64.wrap (((x.m_4.Threads.n : Nat) : Int) - 1))))).get i5).A ((x.m_4.Threads.get i4).get i5).A)) (cond (Nat.beq i4 ((0 : Nat) + (Int.toNat (IntKind.i64.wrap (((x.m_4.Threads.n : Nat) : Int) - 1))))) (cond (Nat.blt i5 (x.m_4.Threads.get ((0 : Nat) + (Int.toNat (IntKind.i64.wrap (((x.m_4.Threads.n : Nat) : Int) - 1))))).n) ((x.m_4.Threads.get ((0 : Nat) + (Int.toNat (IntKind.i64.wrap (((x.m_4.Threads.n : Nat) : Int) - 1))))).get i5).B y3.fst.B) (cond (Nat.beq i4 ((0 : Nat) + (Int.toNat (IntKind.i64.wrap (((x.m_4.Threads.n : Nat) : Int) - 1))))) ((x.m_4.Threads.get ((0 : Nat) + (Int.toNat (IntKind.i64.wrap (((x.m_4.Threads.n : Nat) : Int) - 1))))).get i5).B ((x.m_4.Threads.get i4).get i5).B)) (cond (Nat.beq i4 ((0 : Nat) + (Int.toNat (IntKind.i64.wrap (((x.m_4.Threads.n : Nat) : Int) - 1))))) (cond (Nat.blt i5 (x.m_4.Threads.get ((0 : Nat) + (Int.toNat (IntKind.i64.wrap (((x.m_4.Threads.n : Nat) : Int) - 1))))).n) ((x.m_4.Threads.get ((0 : Nat) + (Int.toNat (IntKind.i64.wrap (((x.m_4.Threads.n : Nat) : Int) - 1))))).get i5).C y3.fst.C) (cond (Nat.beq i4 ((0 : Nat) + (Int.toNat (IntKind.i64.wrap (((x.m_4.Threads.n : Nat) : Int) - 1))))) ((x.m_4.Threads.get ((0 : Nat) + (Int.toNat (IntKind.i64.wrap (((x.m_4.Threads.n : Nat) : Int) - 1))))).get i5).C ((x.m_4.Threads.get i4).get i5).C)) (cond (Nat.beq i4 ((0 : Nat) + (Int.toNat (IntKind.i64.wrap (((x.m_4.Threads.n : Nat) : Int) - 1))))) (cond (Nat.blt i5 (x.m_4.Threads.get ((0 : Nat) + (Int.toNat (IntKind.i64.wrap (((x.m_4.Threads.n : Nat) : Int) - 1))))).n) ((x.m_4.Threads.get ((0 : Nat) + (Int.toNat (IntKind.i64.wrap (((x.m_4.Threads.n : Nat) : Int) - 1))))).get i5).D y3.fst.D) (cond (Nat.beq i4 ((0 : Nat) + (Int.toNat (IntKind.i64.wrap (((x.m_4.Threads.n : Nat) : Int) - 1))))) ((x.m_4.Threads.get ((0 : Nat) + (Int.toNat (IntKind.i64.wrap (((x.m_4.Threads.n : Nat) : Int) - 1))))).get i5).D ((x.m_4.Threads.get i4).get i5).D)) (cond (Nat.beq i4 ((0 : Nat) + (Int.toNat (IntKind.i64.wrap (((x.m_4.Threads.n : Nat) : Int) - 1))))) (cond (Nat.blt i5 (x.m_4.Threads.get ((0 : Nat) + (Int.toNat (IntKind.i64.wrap (((x.m_4.Threads.n : Nat) : Int) - 1))))).n) ((x.m_4.Threads.get ((0 : Nat) + (Int.toNat (IntKind.i64.wrap (((x.m_4.Threads.n : Nat) : Int) - 1))))).get i5).K y3.fst.K) (cond (Nat.beq i4 ((0 : Nat) + (Int.toNat (IntKind.i64.wrap (((x.m_4.Threads.n : Nat) : Int) - 1))))) ((x.m_4.Threads.get ((0 : Nat) + (Int.toNat (IntKind.i64.wrap (((x.m_4.Threads.n : Nat) : Int) - 1))))).get i5).K ((x.m_4.Threads.get i4).get i5).K))))))))) ((0 : Nat) + (Int.toNat (IntKind.i64.wrap (((x.m_4.Threads.n : Nat) : Int) - 1))))) S_r10_Read_18 (D_r10_Read_18 D_r10_Read_4) (X_r10_Read_18.mk x.s_0 x.line_6 x.i_7 x.m_2 (TApi_Program.mk x.m_4.Rings (Sl.mk x.m_4.Threads.nil x.m_4.Threads.n (fun i4 => (Sl.mk (cond (Nat.beq i4 ((0 : Nat) + (Int.toNat (IntKind.i64.wrap (((x.m_4.Threads.n : Nat) : Int) - 1))))) (cond (Nat.beq 1 0) (x.m_4.Threads.get ((0 : Nat) + (Int.toNat (IntKind.i64.wrap (((x.m_4.Threads.n : Nat) : Int) - 1))))).nil false) (cond (Nat.beq i4 ((0 : Nat) + (Int.toNat (IntKind.i64.wrap (((x.m_4.Threads.n : Nat) : Int) - 1))))) (x.m_4.Threads.get ((0 : Nat) + (Int.toNat (IntKind.i64.wrap (((x.m_4.Threads.n : Nat) : Int) - 1))))).nil (x.m_4.Threads.get i4).nil)) (cond (Nat.beq i4 ((0 : Nat) + (Int.toNat (IntKind.i64.wrap (((x.m_4.Threads.n : Nat) : Int) - 1))))) ((x.m_4.Threads.get ((0 : Nat) + (Int.toNat (IntKind.i64.wrap (((x.m_4.Threads.n : Nat) : Int) - 1))))).n + 1) (cond (Nat.beq i4 ((0 : Nat) + (Int.toNat (IntKind.i64.wrap (((x.m_4.Threads.n : Nat) : Int) - 1))))) (x.m_4.Threads.get ((0 : Nat) + (Int.toNat (IntKind.i64.wrap (((x.m_4.Threads.n : Nat) : Int) - 1))))).n (x.m_4.Threads.get i4).n)) (fun i5 => (TApi_Instr.mk (cond (Nat.beq i4 ((0 : Nat) + (Int.toNat (IntKind.i64.wrap (((x.m_4.Threads.n : Nat) : Int) - 1))))) (cond (Nat.blt i5 (x.m_4.Threads.get ((0 : Nat) + (Int.toNat (IntKind.i64.wrap (((x.m_4.Threads.n : Nat) : Int) - 1))))).n) ((x.m_4.Threads.get ((0 : Nat) + (Int.toNat (IntKind.i64.wrap (((x.m_4.Threads.n : Nat) : Int) - 1))))).get i5).Op y3.fst.Op) (cond (Nat.beq i4 ((0 : Nat) + (Int.toNat (IntKind.i64.wrap (((x.m_4.Threads.n : Nat) : Int) - 1))))) ((x.m_4.Threads.get ((0 : Nat) + (Int.toNat (IntKind.i64.wrap (((x.m_4.Threads.n : Nat) : Int) - 1))))).get i5).Op ((x.m_4.Threads.get i4).get i5).Op)) (cond (Nat.beq i4 ((0 : Nat) + (Int.toNat (IntKind.i64.wrap (((x.m_4.Threads.n : Nat) : Int) - 1))))) (cond (Nat.blt i5 (x.m_4.Threads.get ((0 : Nat) + (Int.toNat (IntKind.i64.wrap (((x.m_4.Threads.n : Nat) : Int) - 1))))).n) ((x.m_4.Threads.get ((0 : Nat) + (Int.toNat (IntKind.i64.wrap (((x.m_4.Threads.n : Nat) : Int) - 1))))).get i5).A y3.fst.A) (cond (Nat.beq i4 ((0 : Nat) + (Int.toNat (IntKind.i64.wrap (((x.m_4.Threads.n : Nat) : Int) - 1))))) ((x.m_4.Threads.get ((0 : Nat) + (Int.toNat (IntKind.i64.wrap (((x.m_4.Threads.n : Nat) : Int) - 1))))).get i5).A ((x.m_4.Threads.get i4).get i5).A)) (cond (Nat.beq i4 ((0 : Nat) + (Int.toNat (IntKind.i64.wrap (((x.m_4.Threads.n : Nat) : Int) - 1))))) (cond (Nat.blt i5 (x.m_4.Threads.get ((0 : Nat) + (Int.toNat (IntKind.i64.wrap (((x.m_4.Threads.n : Nat) : Int) - 1))))).n) ((x.m_4.Threads.get ((0 : Nat) + (Int.toNat (IntKind.i64.wrap (((x.m_4.Threads.n : Nat) : Int) - 1))))).get i5).B y3.fst.B) (cond (Nat.beq i4 ((0 : Nat) + (Int.toNat (IntKind.i64.wrap (((x.m_4.Threads.n : Nat) : Int) - 1))))) ((x.m_4.Threads.get ((0 : Nat) + (Int.toNat (IntKind.i64.wrap (((x.m_4.Threads.n : Nat) : Int) - 1))))).get i5).B ((x.m_4.Threads.get i4).get i5).B)) (cond (Nat.beq i4 ((0 : Nat) + (Int.toNat (IntKind.i64.wrap (((x.m_4.Threads.n : Nat) : Int) - 1))))) (cond (Nat.blt i5 (x.m_4.Threads.get ((0 : Nat) + (Int.toNat (IntKind.i64.wrap (((x.m_4.Threads.n : Nat) : Int) - 1))))).n) ((x.m_4.Threads.get ((0 : Nat) + (Int.toNat (IntKind.i64.wrap (((x.m_4.Threads.n : Nat) : Int) - 1))))).get i5).C y3.fst.C) (cond (Nat.beq i4 ((0 : Nat) + (Int.toNat (IntKind.i64.wrap (((x.m_4.Threads.n : Nat) : Int) - 1))))) ((x.m_4.Threads.get ((0 : Nat) + (Int.toNat (IntKind.i64.wrap (((x.m_4.Threads.n : Nat) : Int) - 1))))).get i5).C ((x.m_4.Threads.get i4).get i5).C)) (cond (Nat.beq i4 ((0 : Nat) + (Int.toNat (IntKind.i64.wrap (((x.m_4.Threads.n : Nat) : Int) - 1))))) (cond (Nat.blt i5 (x.m_4.Threads.get ((0 : Nat) + (Int.toNat (IntKind.i64.wrap (((x.m_4.Threads.n : Nat) : Int) - 1))))).n) ((x.m_4.Threads.get ((0 : Nat) + (Int.toNat (IntKind.i64.wrap (((x.m_4.Threads.n : Nat) : Int) - 1))))).get i5).D y3.fst.D) (cond (Nat.beq i4 ((0 : Nat) + (Int.toNat (IntKind.i64.wrap (((x.m_4.Threads.n : Nat) : Int) - 1))))) ((x.m_4.Threads.get ((0 : Nat) + (Int.toNat (IntKind.i64.wrap (((x.m_4.Threads.n : Nat) : Int) - 1))))).get i5).D ((x.m_4.Threads.get i4).get i5).D)) (cond (Nat.beq i4 ((0 : Nat) + (Int.toNat (IntKind.i64.wrap (((x.m_4.Threads.n : Nat) : Int) - 1))))) (cond (Nat.blt i5 (x.m_4.Threads.get ((0 : Nat) + (Int.toNat (IntKind.i64.wrap (((x.m_4.Threads.n : Nat) : Int) - 1))))).n) ((x.m_4.Threads.get ((0 : Nat) + (Int.toNat (IntKind.i64.wrap (((x.m_4.Threads.n : Nat) : Int) - 1))))).get i5).K y3.fst.K) (cond (Nat.beq i4 ((0 : Nat) + (Int.toNat (IntKind.i64.wrap (((x.m_4.Threads.n : Nat) : Int) - 1))))) ((x.m_4.Threads.get ((0 : Nat) + (Int.toNat (IntKind.i64.wrap (((x.m_4.Threads.n : Nat) : Int) - 1))))).get i5).K ((x.m_4.Threads.get i4).get i5).K)))))))))))))))))
 (.need ((true && true) && (Nat.beq x.m_4.Threads.n x.m_4.Threads.n)) <|
 (.ret ((TApi_Program.mk (Sl.mk true 0 (fun _i4 => (TApi_Ring.mk 0 0 0))) (Sl.mk true 0 (fun _i4 => (Sl.mk true 0 (fun _i5 => (TApi_Instr.mk 0 0 0 0 0 0)))))), x.line_6))))))
 (.ret ((TApi_Program.mk (Sl.mk true 0 (fun _i4 => (TApi_Ring.mk 0 0 0))) (Sl.mk true 0 (fun _i4 => (Sl.mk true 0 (fun _i5 => (TApi_Instr.mk 0 0 0 0 0 0)))))), x.line_6)))
 (.ret ((TApi_Program.mk (Sl.mk true 0 (fun _i4 => (TApi_Ring.mk 0 0 0))) (Sl.mk true 0 (fun _i4 => (Sl.mk true 0 (fun _i5 => (TApi_Instr.mk 0 0 0 0 0 0)))))), x.line_6))))
 (.ite y3.snd
 (.ite (ilt 0 ((x.m_4.Threads.n : Nat) : Int))
 (.need (inb (IntKind.i64.wrap (((x.m_4.Threads.n : Nat) : Int) - 1)) x.m_4.Threads.n) <|
 (.need ((Nat.beq x.m_4.Threads.n x.m_4.Threads.n) && true) <|
 (.ite (ilt (((x.m_4.Threads.get ((0 : Nat) + (Int.toNat (IntKind.i64.wrap (((x.m_4.Threads.n : Nat) : Int) - 1))))).n : Nat) : Int) 256)
 (.need ((true && true) && (Nat.beq x.m_4.Threads.n x.m_4.Threads.n)) <|
 (.need (inb (IntKind.i64.wrap (((x.m_4.Threads.n : Nat) : Int) - 1)) x.m_4.Threads.n) <|
 (.need ((Nat.beq x.m_4.Threads.n x.m_4.Threads.n) && true) <|
 (.need (true && (room ((x.m_4.Threads.get ((0 : Nat) + (Int.toNat (IntKind.i64.wrap (((x.m_4.Threads.n : Nat) : Int) - 1))))).n + 1) 48)) <|
 (.need (inb (IntKind.i64.wrap (((x.m_4.Threads.n : Nat) : Int) - 1)) x.m_4.Threads.n) <|
 (.need ((Nat.beq x.m_4.Threads.n x.m_4.Threads.n) && true) <|
 (.need ((true && true) && (Nat.beq x.m_4.Threads.n x.m_4.Threads.n)) <|
 (.jumpP (tokP_r10_Read_18 (X_r10_Read_18.mk x.s_0 x.line_6 x.i_7 x.m_2 (TApi_Program.mk x.m_4.Rings (Sl.mk x.m_4.Threads.nil x.m_4.Threads.n (fun i4 => (Sl.mk (cond (Nat.beq i4 ((0 : Nat) + (Int.toNat (IntKind.i64.wrap (((x.m_4.Threads.n : Nat) : Int) - 1))))) (cond (Nat.beq 1 0) (x.m_4.Threads.get ((0 : Nat) + (Int.toNat (IntKind.i64.wrap (((x.m_4.Threads.n : Nat) : Int) - 1))))).nil false) (cond (Nat.beq i4 ((0 : Nat) + (Int.toNat (IntKind.i64.wrap (((x.m_4.Threads.n : Nat) : Int) - 1))))) (x.m_4.Threads.get ((0 : Nat) + (Int.toNat (IntKind.i64.wrap (((x.m_4.Threads.n : Nat) : Int) - 1))))).nil (x.m_4.Threads.get i4).nil)) (cond (Nat.beq i4 ((0 : Nat) + (Int.toNat (IntKind.i64.wrap (((x.m_4.Threads.n : Nat) : Int) - 1))))) ((x.m_4.Threads.get ((0 : Nat) + (Int.toNat (IntKind.i64.wrap (((x.m_4.Threads.n : Nat) : Int) - 1))))).n + 1) (cond (Nat.beq i4 ((0 : Nat) + (Int.toNat (IntKind.i64.wrap (((x.m_4.Threads.n : Nat) : Int) - 1))))) (x.m_4.Threads.get ((0 : Nat) + (Int.toNat (IntKind.i64.wrap (((x.m_4.Threads.n : Nat) : Int) - 1))))).n (x.m_4.Threads.get i4).n)) (fun i5 => (TApi_Instr.mk (cond (Nat.beq i4 ((0 : Nat) + (Int.toNat (IntKind.i64.wrap (((x.m_4.Threads.n : Nat) : Int) - 1))))) (cond (Nat.blt i5 (x.m_4.Threads.get ((0 : Nat) + (Int.toNat (IntKind.i64.wrap (((x.m_4.Threads.n : Nat) : Int) - 1))))).n) ((x.m_4.Threads.get ((0 : Nat) + (Int.toNat (IntKind.i64.wrap (((x.m_4.Threads.n : Nat) : Int) - 1))))).get i5).Op y3.fst.Op) (cond (Nat.beq i4 ((0 : Nat) + (Int.toNat (IntKind.i64.wrap (((x.m_4.Threads.n : Nat) : Int) - 1))))) ((x.m_4.Threads.get ((0 : Nat) + (Int.toNat (IntKind.i64.wrap (((x.m_4.Threads.n : Nat) : Int) - 1))))).get i5).Op ((x.m_4.Threads.get i4).get i5).Op)) (cond (Nat.beq i4 ((0 : Nat) + (Int.toNat (IntKind.i64.wrap (((x.m_4.Threads.n : Nat) : Int) - 1))))) (cond (Nat.blt i5 (x.m_4.Threads.get ((0 : Nat) + (Int.toNat (IntKind.i64.wrap (((x.m_4.Threads.n : Nat) : Int) - 1))))).n) ((x.m_4.Threads.get ((0 : Nat) + (Int.toNat (IntKind.i64.wrap (((x.m_4.Threads.n : Nat) : Int) - 1))))).get i5).A y3.fst.A) (cond (Nat.beq i4 ((0 : Nat) + (Int.toNat (IntKind.i64.wrap (((x.m_4.Threads.n : Nat) : Int) - 1))))) ((x.m_4.Threads.get ((0 : Nat) + (Int.toNat (IntKind.i64.wrap (((x.m_4.Threads.n : Nat) : Int) - 1))))).get i5).A ((x.m_4.Threads.get i4).get i5).A)) (cond (Nat.beq i4 ((0 : Nat) + (Int.toNat (IntKind.i64.wrap (((x.m_4.Threads.n : Nat) : Int) - 1))))) (cond (Nat.blt i5 (x.m_4.Threads.get ((0 : Nat) + (Int.toNat (IntKind.i64.wrap (((x.m_4.Threads.n : Nat) : Int) - 1))))).n) ((x.m_4.Threads.get ((0 : Nat) + (Int.toNat (IntKind.i64.wrap (((x.m_4.Threads.n : Nat) : Int) - 1))))).get i5).B y3.fst.B) (cond (Nat.beq i4 ((0 : Nat) + (Int.toNat (IntKind.i64.wrap (((x.m_4.Threads.n : Nat) : Int) - 1))))) ((x.m_4.Threads.get ((0 : Nat) + (Int.toNat (IntKind.i64.wrap (((x.m_4.Threads.n : Nat) : Int) - 1))))).get i5).B ((x.m_4.Threads.get i4).get i5).B)) (cond (Nat.beq i4 ((0 : Nat) + (Int.toNat (IntKind.i64.wrap (((x.m_4.Threads.n : Nat) : Int) - 1))))) (cond (Nat.blt i5 (x.m_4.Threads.get ((0 : Nat) + (Int.toNat (IntKind.i64.wrap (((x.m_4.Threads.n : Nat) : Int) - 1))))).n) ((x.m_4.Threads.get ((0 : Nat) + (Int.toNat (IntKind.i64.wrap (((x.m_4.Threads.n : Nat) : Int) - 1))))).get i5).C y3.fst.C) (cond (Nat.beq i4 ((0 : Nat) + (Int.toNat (IntKind.i64.wrap (((x.m_4.Threads.n : Nat) : Int) - 1))))) ((x.m_4.Threads.get ((0 : Nat) + (Int.toNat (IntKind.i64.wrap (((x.m_4.Threads.n : Nat) : Int) - 1))))).get i5).C ((x.m_4.Threads.get i4).get i5).C)) (cond (Nat.beq i4 ((0 : Nat) + (Int.toNat (IntKind.i64.wrap (((x.m_4.Threads.n : Nat) : Int) - 1))))) (cond (Nat.blt i5 (x.m_4.Threads.get ((0 : Nat) + (Int.toNat (IntKind.i64.wrap (((x.m_4.Threads.n : Nat) : Int) - 1))))).n) ((x.m_4.Threads.get ((0 : Nat) + (Int.toNat (IntKind.i64.wrap (((x.m_4.Threads.n : Nat) : Int) - 1))))).get i5).D y3.fst.D) (cond (Nat.beq i4 ((0 : Nat) + (Int.toNat (IntKind.i64.wrap (((x.m_4.Threads.n : Nat) : Int) - 1))))) ((x.m_4.Threads.get ((0 : Nat) + (Int.toNat (IntKind.i64.wrap (((x.m_4.Threads.n : Nat) : Int) - 1))))).get i5).D ((x.m_4.Threads.get i4).get i5).D)) (cond (Nat.beq i4 ((0 : Nat) + (Int.toNat (IntKind.i64.wrap (((x.m_4.Threads.n : Nat) : Int) - 1))))) (cond (Nat.blt i5 (x.m_4.Threads.get ((0 : Nat) + (Int.toNat (IntKind.i64.wrap (((x.m_4.Threads.n : Nat) : Int) - 1))))).n) ((x.m_4.Threads.get ((0 : Nat) + (Int.toNat (IntKind.i64.wrap (((x.m_4.Threads.n : Nat) : Int) - 1))))).get i5).K y3.fst.K) (cond (Nat.beq i4 ((0 : Nat) + (Int.toNat (IntKind.i64.wrap (((x.m_4.Threads.n : Nat) : Int) - 1))))) ((x.m_4.Threads.get ((0 : Nat) + (Int.toNat (IntKind.i64.wrap (((x.m_4.Threads.n : Nat) : Int) - 1))))).get i5).K ((x.m_4.Threads.get i4).get i5).K))))))))) ((0 : Nat) + (Int.toNat (IntKind.i64.wrap (((x.m_4.Threads.n : Nat) : Int) - 1))))) S_r10_Read_18 (D_r10_Read_18 D_r10_Read_4) (X_r10_Read_18.mk x.s_0 x.line_6 x.i_7 x.m_2 (TApi_Program.mk x.m_4.Rings (Sl.mk x.m_4.Threads.nil x.m_4.Threads.n (fun i4 => (Sl.mk (cond (Nat.beq i4 ((0 : Nat) + (Int.toNat (IntKind.i64.wrap (((x.m_4.Threads.n : Nat) : Int) - 1))))) (cond (Nat.beq 1 0) (x.m_4.Threads.get ((0 : Nat) + (Int.toNat (IntKind.i64.wrap (((x.m_4.Threads.n : Nat) : Int) - 1))))).nil false) (cond (Nat.beq i4 ((0 : Nat) + (Int.toNat (IntKind.i64.wrap (((x.m_4.Threads.n : Nat) : Int) - 1))))) (x.m_4.Threads.get ((0 : Nat) + (Int.toNat (IntKind.i64.wrap (((x.m_4.Threads.n : Nat) : Int) - 1))))).nil (x.m_4.Threads.get i4).nil)) (cond (Nat.beq i4 ((0 : Nat) + (Int.toNat (IntKind.i64.wrap (((x.m_4.Threads.n : Nat) : Int) - 1))))) ((x.m_4.Threads.get ((0 : Nat) + (Int.toNat (IntKind.i64.wrap (((x.m_4.Threads.n : Nat) : Int) - 1))))).n + 1) (cond (Nat.beq i4 ((0 : Nat) + (Int.toNat (IntKind.i64.wrap (((x.m_4.Threads.n : Nat) : Int) - 1))))) (x.m_4.Threads.get ((0 : Nat) + (Int.toNat (IntKind.i64.wrap (((x.m_4.Threads.n : Nat) : Int) - 1))))).n (x.m_4.Threads.get i4).n)) (fun i5 => (TApi_Instr.mk (cond (Nat.beq i4 ((0 : Nat) + (Int.toNat (IntKind.i64.wrap (((x.m_4.Threads.n : Nat) : Int) - 1))))) (cond (Nat.blt i5 (x.m_4.Threads.get ((0 : Nat) + (Int.toNat (IntKind.i64.wrap (((x.m_4.Threads.n : Nat) : Int) - 1))))).n) ((x.m_4.Threads.get ((0 : Nat) + (Int.toNat (IntKind.i64.wrap (((x.m_4.Threads.n : Nat) : Int) - 1))))).get i5).Op y3.fst.Op) (cond (Nat.beq i4 ((0 : Nat) + (Int.toNat (IntKind.i64.wrap (((x.m_4.Threads.n : Nat) : Int) - 1))))) ((x.m_4.Threads.get ((0 : Nat) + (Int.toNat (IntKind.i64.wrap (((x.m_4.Threads.n : Nat) : Int) - 1))))).get i5).Op ((x.m_4.Threads.get i4).get i5).Op)) (cond (Nat.beq i4 ((0 : Nat) + (Int.toNat (IntKind.i64.wrap (((x.m_4.Threads.n : Nat) : Int) - 1))))) (cond (Nat.blt i5 (x.m_4.Threads.get ((0 : Nat) + (Int.toNat (IntKind.i64.wrap (((x.m_4.Threads.n : Nat) : Int) - 1))))).n) ((x.m_4.Threads.get ((0 : Nat) + (Int.toNat (IntKind.i64.wrap (((x.m_4.Threads.n : Nat) : Int) - 1))))).get i5).A y3.fst.A) (cond (Nat.beq i4 ((0 : Nat) + (Int.toNat (IntKind.i64.wrap (((x.m_4.Threads.n : Nat) : Int) - 1))))) ((x.m_4.Threads.get ((0 : Nat) + (Int.toNat (IntKind.i64.wrap (((x.m_4.Threads.n : Nat) : Int) - 1))))).get i5).A ((x.m_4.Threads.get i4).get i5).A)) (cond (Nat.beq i4 ((0 : Nat) + (Int.toNat (IntKind.i64.wrap (((x.m_4.Threads.n : Nat) : Int) - 1))))) (cond (Nat.blt i5 (x.m_4.Threads.get ((0 : Nat) + (Int.toNat (IntKind.i64.wrap (((x.m_4.Threads.n : Nat) : Int) - 1))))).n) ((x.m_4.Threads.get ((0 : Nat) + (Int.toNat (IntKind.i64.wrap (((x.m_4.Threads.n : Nat) : Int) - 1))))).get i5).B y3.fst.B) (cond (Nat.beq i4 ((0 : Nat) + (Int.toNat (IntKind.i64.wrap (((x.m_4.Threads.n : Nat) : Int) - 1))))) ((x.m_4.Threads.get ((0 : Nat) + (Int.toNat (IntKind.i64.wrap (((x.m_4.Threads.n : Nat) : Int) - 1))))).get i5).B ((x.m_4.Threads.get i4).get i5).B)) (cond (Nat.beq i4 ((0 : Nat) + (Int.toNat (IntKind.i64.wrap (((x.m_4.Threads.n : Nat) : Int) - 1))))) (cond (Nat.blt i5 (x.m_4.Threads.get ((0 : Nat) + (Int.toNat (IntKind.i64.wrap (((x.m_4.Threads.n : Nat) : Int) - 1))))).n) ((x.m_4.Threads.get ((0 : Nat) + (Int.toNat (IntKind.i64.wrap (((x.m_4.Threads.n : Nat) : Int) - 1))))).get i5).C y3.fst.C) (cond (Nat.beq i4 ((0 : Nat) + (Int.toNat (IntKind.i64.wrap (((x.m_4.Threads.n : Nat) : Int) - 1))))) ((x.m_4.Threads.get ((0 : Nat) + (Int.toNat (IntKind.i64.wrap (((x.m_4.Threads.n : Nat) : Int) - 1))))).get i5).C ((x.m_4.Threads.get i4).get i5).C)) (cond (Nat.beq i4 ((0 : Nat) + (Int.toNat (IntKind.i64.wrap (((x.m_4.Threads.n : Nat) : Int) - 1))))) (cond (Nat.blt i5 (x.m_4.Threads.get ((0 : Nat) + (Int.toNat (IntKind.i64.wrap (((x.m_4.Threads.n : Nat) : Int) - 1))))).n) ((x.m_4.Threads.get ((0 : Nat) + (Int.toNat (IntKind.i64.wrap (((x.m_4.Threads.n : Nat) : Int) - 1))))).get i5).D y3.fst.D) (cond (Nat.beq i4 ((0 : Nat) + (Int.toNat (IntKind.i64.wrap (((x.m_4.Threads.n : Nat) : Int) - 1))))) ((x.m_4.Threads.get ((0 : Nat) + (Int.toNat (IntKind.i64.wrap (((x.m_4.Threads.n : Nat) : Int) - 1))))).get i5).D ((x.m_4.Threads.get i4).get i5).D)) (cond (Nat.beq i4 ((0 : Nat) + (Int.toNat (IntKind.i64.wrap (((x.m_4.Threads.n : Nat) : Int) - 1))))) (cond (Nat.blt i5 (x.m_4.Threads.get ((0 : Nat) + (Int.toNat (IntKind.i64.wrap (((x.m_4.Threads.n : Nat) : Int) - 1))))).n) ((x.m_4.Threads.get ((0 : Nat) + (Int.toNat (IntKind.i64.wrap (((x.m_4.Threads.n : Nat) : Int) - 1))))).get i5).K y3.fst.K) (cond (Nat.beq i4 ((0 : Nat) + (Int.toNat (IntKind.i64.wrap (((x.m_4.Threads.n : Nat) : Int) - 1))))) ((x.m_4.Threads.get ((0 : Nat) + (Int.toNat (IntKind.i64.wrap (((x.m_4.Threads.n : Nat) : Int) - 1))))).get i5).K ((x.m_4.Threads.get i4).get i5).K)))))))))))))))))
 (.need ((true && true) && (Nat.beq x.m_4.Threads.n x.m_4.Threads.n)) <|
 (.ret ((TApi_Program.mk (Sl.mk true 0 (fun _i4 => (TApi_Ring.mk 0 0 0))) (Sl.mk true 0 (fun _i4 => (Sl.mk true 0 (fun _i5 => (TApi_Instr.mk 0 0 0 0 0 0)))))), x.line_6))))))
 (.ret ((TApi_Program.mk (Sl.mk true 0 (fun _i4 => (TApi_Ring.mk 0 0 0))) (Sl.mk true 0 (fun _i4 => (Sl.mk true 0 (fun _i5 => (TApi_Instr.mk 0 0 0 0 0 0)))))), x.line_6)))
 (.ret ((TApi_Program.mk (Sl.mk true 0 (fun _i4 => (TApi_Ring.mk 0 0 0))) (Sl.mk true 0 (fun _i4 => (Sl.mk true 0 (fun _i5 => (TApi_Instr.mk 0 0 0 0 0 0)))))), x.line_6)))))
 (.ite (seq (ByteArray.extract x.s_0 (Int.toNat x.at_5) (Int.toNat x.i_7)) (ByteArray.mk #[116, 104, 114, 101, 97, 100]))
 (.ite (ilt ((x.m_4.Threads.n : Nat) : Int) 8)
 (.need (true && (room (x.m_4.Threads.n + 1) 24)) <|
 (.jump S_r10_Read_18 (D_r10_Read_18 D_r10_Read_4) (X_r10_Read_18.mk x.s_0 x.line_6 x.i_7 x.m_2 (TApi_Program.mk x.m_4.Rings (Sl.mk (cond (Nat.beq 1 0) x.m_4.Threads.nil false) (x.m_4.Threads.n + 1) (fun i4 => (Sl.mk (cond (Nat.blt i4 x.m_4.Threads.n) (x.m_4.Threads.get i4).nil true) (cond (Nat.blt i4 x.m_4.Threads.n) (x.m_4.Threads.get i4).n (0 : Nat)) (fun i5 => (TApi_Instr.mk (cond (Nat.blt i4 x.m_4.Threads.n) ((x.m_4.Threads.get i4).get i5).Op (0 : Int)) (cond (Nat.blt i4 x.m_4.Threads.n) ((x.m_4.Threads.get i4).get i5).A (0 : Int)) (cond (Nat.blt i4 x.m_4.Threads.n) ((x.m_4.Threads.get i4).get i5).B (0 : Int)) (cond (Nat.blt i4 x.m_4.Threads.n) ((x.m_4.Threads.get i4).get i5).C (0 : Int)) (cond (Nat.blt i4 x.m_4.Threads.n) ((x.m_4.Threads.get i4).get i5).D (0 : Int)) (cond (Nat.blt i4 x.m_4.Threads.n) ((x.m_4.Threads.get i4).get i5).K (0 : Int)))))))))))
 (.ite y3.snd
 (.ite (ilt 0 ((x.m_4.Threads.n : Nat) : Int))
 (.need (inb (IntKind.i64.wrap (((x.m_4.Threads.n : Nat) : Int) - 1)) x.m_4.Threads.n) <|
 (.need ((Nat.beq x.m_4.Threads.n x.m_4.Threads.n) && true) <|
 (.ite (ilt (((x.m_4.Threads.get ((0 : Nat) + (Int.toNat (IntKind.i64.wrap (((x.m_4.Threads.n : Nat) : Int) - 1))))).n : Nat) : Int) 256)
 (.need ((true && true) && (Nat.beq x.m_4.Threads.n x.m_4.Threads.n)) <|
 (.need (inb (IntKind.i64.wrap (((x.m_4.Threads.n : Nat) : Int) - 1)) x.m_4.Threads.n) <|
 (.need ((Nat.beq x.m_4.Threads.n x.m_4.Threads.n) && true) <|
 (.need (true && (room ((x.m_4.Threads.get ((0 : Nat) + (Int.toNat (IntKind.i64.wrap (((x.m_4.Threads.n : Nat) : Int) - 1))))).n + 1) 48)) <|
 (.need (inb (IntKind.i64.wrap (((x.m_4.Threads.n : Nat) : Int) - 1)) x.m_4.Threads.n) <|
 (.need ((Nat.beq x.m_4.Threads.n x.m_4.Threads.n) && true) <|
 (.need ((true && true) && (Nat.beq x.m_4.Threads.n x.m_4.Threads.n)) <|
 (.jumpP (tokP_r10_Read_18 (X_r10_Read_18.mk x.s_0 x.line_6 x.i_7 x.m_2 (TApi_Program.mk x.m_4.Rings (Sl.mk x.m_4.Threads.nil x.m_4.Threads.n (fun i4 => (Sl.mk (cond (Nat.beq i4 ((0 : Nat) + (Int.toNat (IntKind.i64.wrap (((x.m_4.Threads.n : Nat) : Int) - 1))))) (cond (Nat.beq 1 0) (x.m_4.Threads.get ((0 : Nat) + (Int.toNat (IntKind.i64.wrap (((x.m_4.Threads.n : Nat) : Int) - 1))))).nil false) (cond (Nat.beq i4 ((0 : Nat) + (Int.toNat (IntKind.i64.wrap (((x.m_4.Threads.n : Nat) : Int) - 1))))) (x.m_4.Threads.get ((0 : Nat) + (Int.toNat (IntKind.i64.wrap (((x.m_4.Threads.n : Nat) : Int) - 1))))).nil (x.m_4.Threads.get i4).nil)) (cond (Nat.beq i4 ((0 : Nat) + (Int.toNat (IntKind.i64.wrap (((x.m_4.Threads.n : Nat) : Int) - 1))))) ((x.m_4.Threads.get ((0 : Nat) + (Int.toNat (IntKind.i64.wrap (((x.m_4.Threads.n : Nat) : Int) - 1))))).n + 1) (cond (Nat.beq i4 ((0 : Nat) + (Int.toNat (IntKind.i64.wrap (((x.m_4.Threads.n : Nat) : Int) - 1))))) (x.m_4.Threads.get ((0 : Nat) + (Int.toNat (IntKind.i64.wrap (((x.m_4.Threads.n : Nat) : Int) - 1))))).n (x.m_4.Threads.get i4).n)) (fun i5 => (TApi_Instr.mk (cond (Nat.beq i4 ((0 : Nat) + (Int.toNat (IntKind.i64.wrap (((x.m_4.Threads.n : Nat) : Int) - 1))))) (cond (Nat.blt i5 (x.m_4.Threads.get ((0 : Nat) + (Int.toNat (IntKind.i64.wrap (((x.m_4.Threads.n : Nat) : Int) - 1))))).n) ((x.m_4.Threads.get ((0 : Nat) + (Int.toNat (IntKind.i64.wrap (((x.m_4.Threads.n : Nat) : Int) - 1))))).get i5).Op y3.fst.Op) (cond (Nat.beq i4 ((0 : Nat) + (Int.toNat (IntKind.i64.wrap (((x.m_4.Threads.n : Nat) : Int) - 1))))) ((x.m_4.Threads.get ((0 : Nat) + (Int.toNat (IntKind.i64.wrap (((x.m_4.Threads.n : Nat) : Int) - 1))))).get i5).Op ((x.m_4.Threads.get i4).get i5).Op)) (cond (Nat.beq i4 ((0 : Nat) + (Int.toNat (IntKind.i64.wrap (((x.m_4.Threads.n : Nat) : Int) - 1))))) (cond (Nat.blt i5 (x.m_4.Threads.get ((0 : Nat) + (Int.toNat (IntKind.i64.wrap (((x.m_4.Threads.n : Nat) : Int) - 1))))).n) ((x.m_4.Threads.get ((0 : Nat) + (Int.toNat (IntKind.i64.wrap (((x.m_4.Threads.n : Nat) : Int) - 1))))).get i5).A y3.fst.A) (cond (Nat.beq i4 ((0 : Nat) + (Int.toNat (IntKind.i64.wrap (((x.m_4.Threads.n : Nat) : Int) - 1))))) ((x.m_4.Threads.get ((0 : Nat) + (Int.toNat (IntKind.i64.wrap (((x.m_4.Threads.n : Nat) : Int) - 1))))).get i5).A ((x.m_4.Threads.get i4).get i5).A)) (cond (Nat.beq i4 ((0 : Nat) + (Int.toNat (IntKind.i64.wrap (((x.m_4.Threads.n : Nat) : Int) - 1))))) (cond (Nat.blt i5 (x.m_4.Threads.get ((0 : Nat) + (Int.toNat (IntKind.i64.wrap (((x.m_4.Threads.n : Nat) : Int) - 1))))).n) ((x.m_4.Threads.get ((0 : Nat) + (Int.toNat (IntKind.i64.wrap (((x.m_4.Threads.n : Nat) : Int) - 1))))).get i5).B y3.fst.B) (cond (Nat.beq i4 ((0 : Nat) + (Int.toNat (IntKind.i64.wrap (((x.m_4.Threads.n : Nat) : Int) - 1))))) ((x.m_4.Threads.get ((0 : Nat) + (Int.toNat (IntKind.i64.wrap (((x.m_4.Threads.n : Nat) : Int) - 1))))).get i5).B ((x.m_4.Threads.get i4).get i5).B)) (cond (Nat.beq i4 ((0 : Nat) + (Int.toNat (IntKind.i64.wrap (((x.m_4.Threads.n : Nat) : Int) - 1))))) (cond (Nat.blt i5 (x.m_4.Threads.get ((0 : Nat) + (Int.toNat (IntKind.i64.wrap (((x.m_4.Threads.n : Nat) : Int) - 1))))).n) ((x.m_4.Threads.get ((0 : Nat) + (Int.toNat (IntKind.i64.wrap (((x.m_4.Threads.n : Nat) : Int) - 1))))).get i5).C y3.fst.C) (cond (Nat.beq i4 ((0 : Nat) + (Int.toNat (IntKind.i64.wrap (((x.m_4.Threads.n : Nat) : Int) - 1))))) ((x.m_4.Threads.get ((0 : Nat) + (Int.toNat (IntKind.i64.wrap (((x.m_4.Threads.n : Nat) : Int) - 1))))).get i5).C ((x.m_4.Threads.get i4).get i5).C)) (cond (Nat.beq i4 ((0 : Nat) + (Int.toNat (IntKind.i64.wrap (((x.m_4.Threads.n : Nat) : Int) - 1))))) (cond (Nat.blt i5 (x.m_4.Threads.get ((0 : Nat) + (Int.toNat (IntKind.i64.wrap (((x.m_4.Threads.n : Nat) : Int) - 1))))).n) ((x.m_4.Threads.get ((0 : Nat) + (Int.toNat (IntKind.i64.wrap (((x.m_4.Threads.n : Nat) : Int) - 1))))).get i5).D y3.fst.D) (cond (Nat.beq i4 ((0 : Nat) + (Int.toNat (IntKind.i64.wrap (((x.m_4.Threads.n : Nat) : Int) - 1))))) ((x.m_4.Threads.get ((0 : Nat) + (Int.toNat (IntKind.i64.wrap (((x.m_4.Threads.n : Nat) : Int) - 1))))).get i5).D ((x.m_4.Threads.get i4).get i5).D)) (cond (Nat.beq i4 ((0 : Nat) + (Int.toNat (IntKind.i64.wrap (((x.m_4.Threads.n : Nat) : Int) - 1))))) (cond (Nat.blt i5 (x.m_4.Threads.get ((0 : Nat) + (Int.toNat (IntKind.i64.wrap (((x.m_4.Threads.n : Nat) : Int) - 1))))).n) ((x.m_4.Threads.get ((0 : Nat) + (Int.toNat (IntKind.i64.wrap (((x.m_4.Threads.n : Nat) : Int) - 1))))).get i5).K y3.fst.K) (cond (Nat.beq i4 ((0 : Nat) + (Int.toNat (IntKind.i64.wrap (((x.m_4.Threads.n : Nat) : Int) - 1))))) ((x.m_4.Threads.get ((0 : Nat) + (Int.toNat (IntKind.i64.wrap (((x.m_4.Threads.n : Nat) : Int) - 1))))).get i5).K ((x.m_4.Threads.get i4).get i5).K))))))))) ((0 : Nat) + (Int.toNat (IntKind.i64.wrap (((x.m_4.Threads.n : Nat) : Int) - 1))))) S_r10_Read_18 (D_r10_Read_18 D_r10_Read_4) (X_r10_Read_18.mk x.s_0 x.line_6 x.i_7 x.m_2 (TApi_Program.mk x.m_4.Rings (Sl.mk x.m_4.Threads.nil x.m_4.Threads.n (fun i4 => (Sl.mk (cond (Nat.beq i4 ((0 : Nat) + (Int.toNat (IntKind.i64.wrap (((x.m_4.Threads.n : Nat) : Int) - 1))))) (cond (Nat.beq 1 0) (x.m_4.Threads.get ((0 : Nat) + (Int.toNat (IntKind.i64.wrap (((x.m_4.Threads.n : Nat) : Int) - 1))))).nil false) (cond (Nat.beq i4 ((0 : Nat) + (Int.toNat (IntKind.i64.wrap (((x.m_4.Threads.n : Nat) : Int) - 1))))) (x.m_4.Threads.get ((0 : Nat) + (Int.toNat (IntKind.i64.wrap (((x.m_4.Threads.n : Nat) : Int) - 1))))).nil (x.m_4.Threads.get i4).nil)) (cond (Nat.beq i4 ((0 : Nat) + (Int.toNat (IntKind.i64.wrap (((x.m_4.Threads.n : Nat) : Int) - 1))))) ((x.m_4.Threads.get ((0 : Nat) + (Int.toNat (IntKind.i64.wrap (((x.m_4.Threads.n : Nat) : Int) - 1))))).n + 1) (cond (Nat.beq i4 ((0 : Nat) + (Int.toNat (IntKind.i64.wrap (((x.m_4.Threads.n : Nat) : Int) - 1))))) (x.m_4.Threads.get ((0 : Nat) + (Int.toNat (IntKind.i64.wrap (((x.m_4.Threads.n : Nat) : Int) - 1))))).n (x.m_4.Threads.get i4).n)) (fun i5 => (TApi_Instr.mk (cond (Nat.beq i4 ((0 : Nat) + (Int.toNat (IntKind.i64.wrap (((x.m_4.Threads.n : Nat) : Int) - 1))))) (cond (Nat.blt i5 (x.m_4.Threads.get ((0 : Nat) + (Int.toNat (IntKind.i64.wrap (((x.m_4.Threads.n : Nat) : Int) - 1))))).n) ((x.m_4.Threads.get ((0 : Nat) + (Int.toNat (IntKind.i64.wrap (((x.m_4.Threads.n : Nat) : Int) - 1))))).get i5).Op y3.fst.Op) (cond (Nat.beq i4 ((0 : Nat) + (Int.toNat (IntKind.i64.wrap (((x.m_4.Threads.n : Nat) : Int) - 1))))) ((x.m_4.Threads.get ((0 : Nat) + (Int.toNat (IntKind.i64.wrap (((x.m_4.Threads.n : Nat) : Int) - 1))))).get i5).Op ((x.m_4.Threads.get i4).get i5).Op)) (cond (Nat.beq i4 ((0 : Nat) + (Int.toNat (IntKind.i64.wrap (((x.m_4.Threads.n : Nat) : Int) - 1))))) (cond (Nat.blt i5 (x.m_4.Threads.get ((0 : Nat) + (Int.toNat (IntKind.i64.wrap (((x.m_4.Threads.n : Nat) : Int) - 1))))).n) ((x.m_4.Threads.get ((0 : Nat) + (Int.toNat (IntKind.i64.wrap (((x.m_4.Threads.n : Nat) : Int) - 1))))).get i5).A y3.fst.A) (cond (Nat.beq i4 ((0 : Nat) + (Int.toNat (IntKind.i64.wrap (((x.m_4.Threads.n : Nat) : Int) - 1))))) ((x.m_4.Threads.get ((0 : Nat) + (Int.toNat (IntKind.i64.wrap (((x.m_4.Threads.n : Nat) : Int) - 1))))).get i5).A ((x.m_4.Threads.get i4).get i5).A)) (cond (Nat.beq i4 ((0 : Nat) + (Int.toNat (IntKind.i64.wrap (((x.m_4.Threads.n : Nat) : Int) - 1))))) (cond (Nat.blt i5 (x.m_4.Threads.get ((0 : Nat) + (Int.toNat (IntKind.i64.wrap (((x.m_4.Threads.n : Nat) : Int) - 1))))).n) ((x.m_4.Threads.get ((0 : Nat) + (Int.toNat (IntKind.i64.wrap (((x.m_4.Threads.n : Nat) : Int) - 1))))).get i5).B y3.fst.B) (cond (Nat.beq i4 ((0 : Nat) + (Int.toNat (IntKind.i64.wrap (((x.m_4.Threads.n : Nat) : Int) - 1))))) ((x.m_4.Threads.get ((0 : Nat) + (Int.toNat (IntKind.i64.wrap (((x.m_4.Threads.n : Nat) : Int) - 1))))).get i5).B ((x.m_4.Threads.get i4).get i5).B)) (cond (Nat.beq i4 ((0 : Nat) + (Int.toNat (IntKind.i64.wrap (((x.m_4.Threads.n : Nat) : Int) - 1))))) (cond (Nat.blt i5 (x.m_4.Threads.get ((0 : Nat) + (Int.toNat (IntKind.i64.wrap (((x.m_4.Threads.n : Nat) : Int) - 1))))).n) ((x.m_4.Threads.get ((0 : Nat) + (Int.toNat (IntKind.i64.wrap (((x.m_4.Threads.n : Nat) : Int) - 1))))).get i5).C y3.fst.C) (cond (Nat.beq i4 ((0 : Nat) + (Int.toNat (IntKind.i64.wrap (((x.m_4.Threads.n : Nat) : Int) - 1))))) ((x.m_4.Threads.get ((0 : Nat) + (Int.toNat (IntKind.i64.wrap (((x.m_4.Threads.n : Nat) : Int) - 1))))).get i5).C ((x.m_4.Threads.get i4).get i5).C)) (cond (Nat.beq i4 ((0 : Nat) + (Int.toNat (IntKind.i64.wrap (((x.m_4.Threads.n : Nat) : Int) - 1))))) (cond (Nat.blt i5 (x.m_4.Threads.get ((0 : Nat) + (Int.toNat (IntKind.i64.wrap (((x.m_4.Threads.n : Nat) : Int) - 1))))).n) ((x.m_4.Threads.get ((0 : Nat) + (Int.toNat (IntKind.i64.wrap (((x.m_4.Threads.n : Nat) : Int) - 1))))).get i5).D y3.fst.D) (cond (Nat.beq i4 ((0 : Nat) + (Int.toNat (IntKind.i64.wrap (((x.m_4.Threads.n : Nat) : Int) - 1))))) ((x.m_4.Threads.get ((0 : Nat) + (Int.toNat (IntKind.i64.wrap (((x.m_4.Threads.n : Nat) : Int) - 1))))).get i5).D ((x.m_4.Threads.get i4).get i5).D)) (cond (Nat.beq i4 ((0 : Nat) + (Int.toNat (IntKind.i64.wrap (((x.m_4.Threads.n : Nat) : Int) - 1))))) (cond (Nat.blt i5 (x.m_4.Threads.get ((0 : Nat) + (Int.toNat (IntKind.i64.wrap (((x.m_4.Threads.n : Nat) : Int) - 1))))).n) ((x.m_4.Threads.get ((0 : Nat) + (Int.toNat (IntKind.i64.wrap (((x.m_4.Threads.n : Nat) : Int) - 1))))).get i5).K y3.fst.K) (cond (Nat.beq i4 ((0 : Nat) + (Int.toNat (IntKind.i64.wrap (((x.m_4.Threads.n : Nat) : Int) - 1))))) ((x.m_4.Threads.get ((0 : Nat) + (Int.toNat (IntKind.i64.wrap (((x.m_4.Threads.n : Nat) : Int) - 1))))).get i5).K ((x.m_4.Threads.get i4).get i5).K)))))))))))))))))
 (.need ((true && true) && (Nat.beq x.m_4.Threads.n x.m_4.Threads.n)) <|
 (.ret ((TApi_Program.mk (Sl.mk true 0 (fun _i4 => (TApi_Ring.mk 0 0 0))) (Sl.mk true 0 (fun _i4 => (Sl.mk true 0 (fun _i5 => (TApi_Instr.mk 0 0 0 0 0 0)))))), x.line_6))))))
 (.ret ((TApi_Program.mk (Sl.mk true 0 (fun _i4 => (TApi_Ring.mk 0 0 0))) (Sl.mk true 0 (fun _i4 => (Sl.mk true 0 (fun _i5 => (TApi_Instr.mk 0 0 0 0 0 0)))))), x.line_6)))
 (.ret ((TApi_Program.mk (Sl.mk true 0 (fun _i4 => (TApi_Ring.mk 0 0 0))) (Sl.mk true 0 (fun _i4 => (Sl.mk true 0 (fun _i5 => (TApi_Instr.mk 0 0 0 0 0 0)))))), x.line_6))))
 (.ite y3.snd
 (.ite (ilt 0 ((x.m_4.Threads.n : Nat) : Int))
 (.need (inb (IntKind.i64.wrap (((x.m_4.Threads.n : Nat) : Int) - 1)) x.m_4.Threads.n) <|
 (.need ((Nat.beq x.m_4.Threads.n x.m_4.Threads.n) && true) <|
 (.ite (ilt (((x.m_4.Threads.get ((0 : Nat) + (Int.toNat (IntKind.i64.wrap (((x.m_4.Threads.n : Nat) : Int) - 1))))).n : Nat) : Int) 256)
 (.need ((true && true) && (Nat.beq x.m_4.Threads.n x.m_4.Threads.n)) <|
 (.need (inb (IntKind.i64.wrap (((x.m_4.Threads.n : Nat) : Int) - 1)) x.m_4.Threads.n) <|
 (.need ((Nat.beq x.m_4.Threads.n x.m_4.Threads.n) && true) <|
 (.need (true && (room ((x.m_4.Threads.get ((0 : Nat) + (Int.toNat (IntKind.i64.wrap (((x.m_4.Threads.n : Nat) : Int) - 1))))).n + 1) 48)) <|
 (.need (inb (IntKind.i64.wrap (((x.m_4.Threads.n : Nat) : Int) - 1)) x.m_4.Threads.n) <|
 (.need ((Nat.beq x.m_4.Threads.n x.m_4.Threads.n) && true) <|
 (.need ((true && true) && (Nat.beq x.m_4.Threads.n x.m_4.Threads.n)) <|
 (.jumpP (tokP_r10_Read_18 (X_r10_Read_18.mk x.s_0 x.line_6 x.i_7 x.m_2 (TApi_Program.mk x.m_4.Rings (Sl.mk x.m_4.Threads.nil x.m_4.Threads.n (fun i4 => (Sl.mk (cond (Nat.beq i4 ((0 : Nat) + (Int.toNat (IntKind.i64.wrap (((x.m_4.Threads.n : Nat) : Int) - 1))))) (cond (Nat.beq 1 0) (x.m_4.Threads.get ((0 : Nat) + (Int.toNat (IntKind.i64.wrap (((x.m_4.Threads.n : Nat) : Int) - 1))))).nil false) (cond (Nat.beq i4 ((0 : Nat) + (Int.toNat (IntKind.i64.wrap (((x.m_4.Threads.n : Nat) : Int) - 1))))) (x.m_4.Threads.get ((0 : Nat) + (Int.toNat (IntKind.i64.wrap (((x.m_4.Threads.n : Nat) : Int) - 1))))).nil (x.m_4.Threads.get i4).nil)) (cond (Nat.beq i4 ((0 : Nat) + (Int.toNat (IntKind.i64.wrap (((x.m_4.Threads.n : Nat) : Int) - 1))))) ((x.m_4.Threads.get ((0 : Nat) + (Int.toNat (IntKind.i64.wrap (((x.m_4.Threads.n : Nat) : Int) - 1))))).n + 1) (cond (Nat.beq i4 ((0 : Nat) + (Int.toNat (IntKind.i64.wrap (((x.m_4.Threads.n : Nat) : Int) - 1))))) (x.m_4.Threads.get ((0 : Nat) + (Int.toNat (IntKind.i64.wrap (((x.m_4.Threads.n : Nat) : Int) - 1))))).n (x.m_4.Threads.get i4).n)) (fun i5 => (TApi_Instr.mk (cond (Nat.beq i4 ((0 : Nat) + (Int.toNat (IntKind.i64.wrap (((x.m_4.Threads.n : Nat) : Int) - 1))))) (cond (Nat.blt i5 (x.m_4.Threads.get ((0 : Nat) + (Int.toNat (IntKind.i64.wrap (((x.m_4.Threads.n : Nat) : Int) - 1))))).n) ((x.m_4.Threads.get ((0 : Nat) + (Int.toNat (IntKind.i64.wrap (((x.m_4.Threads.n : Nat) : Int) - 1))))).get i5).Op y3.fst.Op) (cond (Nat.beq i4 ((0 : Nat) + (Int.toNat (IntKind.i64.wrap (((x.m_4.Threads.n : Nat) : Int) - 1))))) ((x.m_4.Threads.get ((0 : Nat) + (Int.toNat (IntKind.i64.wrap (((x.m_4.Threads.n : Nat) : Int) - 1))))).get i5).Op ((x.m_4.Threads.get i4).get i5).Op)) (cond (Nat.beq i4 ((0 : Nat) + (Int.toNat (IntKind.i64.wrap (((x.m_4.Threads.n : Nat) : Int) - 1))))) (cond (Nat.blt i5 (x.m_4.Threads.get ((0 : Nat) + (Int.toNat (IntKind.i64.wrap (((x.m_4.Threads.n : Nat) : Int) - 1))))).n) ((x.m_4.Threads.get ((0 : Nat) + (Int.toNat (IntKind.i64.wrap (((x.m_4.Threads.n : Nat) : Int) - 1))))).get i5).A y3.fst.A) (cond (Nat.beq i4 ((0 : Nat) + (Int.toNat (IntKind.i64.wrap (((x.m_4.Threads.n : Nat) : Int) - 1))))) ((x.m_4.Threads.get ((0 : Nat) + (Int.toNat (IntKind.i64.wrap (((x.m_4.Threads.n : Nat) : Int) - 1))))).get i5).A ((x.m_4.Threads.get i4).get i5).A)) (cond (Nat.beq i4 ((0 : Nat) + (Int.toNat (IntKind.i64.wrap (((x.m_4.Threads.n : Nat) : Int) - 1))))) (cond (Nat.blt i5 (x.m_4.Threads.get ((0 : Nat) + (Int.toNat (IntKind.i64.wrap (((x.m_4.Threads.n : Nat) : Int) - 1))))).n) ((x.m_4.Threads.get ((0 : Nat) + (Int.toNat (IntKind.i64.wrap (((x.m_4.Threads.n : Nat) : Int) - 1))))).get i5).B y3.fst.B) (cond (Nat.beq i4 ((0 : Nat) + (Int.toNat (IntKind.i64.wrap (((x.m_4.Threads.n : Nat) : Int) - 1))))) ((x.m_4.Threads.get ((0 : Nat) + (Int.toNat (IntKind.i64.wrap (((x.m_4.Threads.n : Nat) : Int) - 1))))).get i5).B ((x.m_4.Threads.get i4).get i5).B)) (cond (Nat.beq i4 ((0 : Nat) + (Int.toNat (IntKind.i64.wrap (((x.m_4.Threads.n : Nat) : Int) - 1))))) (cond (Nat.blt i5 (x.m_4.Threads.get ((0 : Nat) + (Int.toNat (IntKind.i64.wrap (((x.m_4.Threads.n : Nat) : Int) - 1))))).n) ((x.m_4.Threads.get ((0 : Nat) + (Int.toNat (IntKind.i64.wrap (((x.m_4.Threads.n : Nat) : Int) - 1))))).get i5).C y3.fst.C) (cond (Nat.beq i4 ((0 : Nat) + (Int.toNat (IntKind.i64.wrap (((x.m_4.Threads.n : Nat) : Int) - 1))))) ((x.m_4.Threads.get ((0 : Nat) + (Int.toNat (IntKind.i64.wrap (((x.m_4.Threads.n : Nat) : Int) - 1))))).get i5).C ((x.m_4.Threads.get i4).get i5).C)) (cond (Nat.beq i4 ((0 : Nat) + (Int.toNat (IntKind.i64.wrap (((x.m_4.Threads.n : Nat) : Int) - 1))))) (cond (Nat.blt i5 (x.m_4.Threads.get ((0 : Nat) + (Int.toNat (IntKind.i64.wrap (((x.m_4.Threads.n : Nat) : Int) - 1))))).n) ((x.m_4.Threads.get ((0 : Nat) + (Int.toNat (IntKind.i64.wrap (((x.m_4.Threads.n : Nat) : Int) - 1))))).get i5).D y3.fst.D) (cond (Nat.beq i4 ((0 : Nat) + (Int.toNat (IntKind.i64.wrap (((x.m_4.Threads.n : Nat) : Int) - 1))))) ((x.m_4.Threads.get ((0 : Nat) + (Int.toNat (IntKind.i64.wrap (((x.m_4.Threads.n : Nat) : Int) - 1))))).get i5).D ((x.m_4.Threads.get i4).get i5).D)) (cond (Nat.beq i4 ((0 : Nat) + (Int.toNat (IntKind.i64.wrap (((x.m_4.Threads.n : Nat) : Int) - 1))))) (cond (Nat.blt i5 (x.m_4.Threads.get ((0 : Nat) + (Int.toNat (IntKind.i64.wrap (((x.m_4.Threads.n : Nat) : Int) - 1))))).n) ((x.m_4.Threads.get ((0 : Nat) + (Int.toNat (IntKind.i64.wrap (((x.m_4.Threads.n : Nat) : Int) - 1))))).get i5).K y3.fst.K) (cond (Nat.beq i4 ((0 : Nat) + (Int.toNat (IntKind.i64.wrap (((x.m_4.Threads.n : Nat) : Int) - 1))))) ((x.m_4.Threads.get ((0 : Nat) + (Int.toNat (IntKind.i64.wrap (((x.m_4.Threads.n : Nat) : Int) - 1))))).get i5).K ((x.m_4.Threads.get i4).get i5).K))))))))) ((0 : Nat) + (Int.toNat (IntKind.i64.wrap (((x.m_4.Threads.n : Nat) : Int) - 1))))) S_r10_Read_18 (D_r10_Read_18 D_r10_Read_4) (X_r10_Read_18.mk x.s_0 x.line_6 x.i_7 x.m_2 (TApi_Program.mk x.m_4.Rings (Sl.mk x.m_4.Threads.nil x.m_4.Threads.n (fun i4 => (Sl.mk (cond (Nat.beq i4 ((0 : Nat) + (Int.toNat (IntKind.i64.wrap (((x.m_4.Threads.n : Nat) : Int) - 1))))) (cond (Nat.beq 1 0) (x.m_4.Threads.get ((0 : Nat) + (Int.toNat (IntKind.i64.wrap (((x.m_4.Threads.n : Nat) : Int) - 1))))).nil false) (cond (Nat.beq i4 ((0 : Nat) + (Int.toNat (IntKind.i64.wrap (((x.m_4.Threads.n : Nat) : Int) - 1))))) (x.m_4.Threads.get ((0 : Nat) + (Int.toNat (IntKind.i64.wrap (((x.m_4.Threads.n : Nat) : Int) - 1))))).nil (x.m_4.Threads.get i4).nil)) (cond (Nat.beq i4 ((0 : Nat) + (Int.toNat (IntKind.i64.wrap (((x.m_4.Threads.n : Nat) : Int) - 1))))) ((x.m_4.Threads.get ((0 : Nat) + (Int.toNat (IntKind.i64.wrap (((x.m_4.Threads.n : Nat) : Int) - 1))))).n + 1) (cond (Nat.beq i4 ((0 : Nat) + (Int.toNat (IntKind.i64.wrap (((x.m_4.Threads.n : Nat) : Int) - 1))))) (x.m_4.Threads.get ((0 : Nat) + (Int.toNat (IntKind.i64.wrap (((x.m_4.Threads.n : Nat) : Int) - 1))))).n (x.m_4.Threads.get i4).n)) (fun i5 => (TApi_Instr.mk (cond (Nat.beq i4 ((0 : Nat) + (Int.toNat (IntKind.i64.wrap (((x.m_4.Threads.n : Nat) : Int) - 1))))) (cond (Nat.blt i5 (x.m_4.Threads.get ((0 : Nat) + (Int.toNat (IntKind.i64.wrap (((x.m_4.Threads.n : Nat) : Int) - 1))))).n) ((x.m_4.Threads.get ((0 : Nat) + (Int.toNat (IntKind.i64.wrap (((x.m_4.Threads.n : Nat) : Int) - 1))))).get i5).Op y3.fst.Op) (cond (Nat.beq i4 ((0 : Nat) + (Int.toNat (IntKind.i64.wrap (((x.m_4.Threads.n : Nat) : Int) - 1))))) ((x.m_4.Threads.get ((0 : Nat) + (Int.toNat (IntKind.i64.wrap (((x.m_4.Threads.n : Nat) : Int) - 1))))).get i5).Op ((x.m_4.Threads.get i4).get i5).Op)) (cond (Nat.beq i4 ((0 : Nat) + (Int.toNat (IntKind.i64.wrap (((x.m_4.Threads.n : Nat) : Int) - 1))))) (cond (Nat.blt i5 (x.m_4.Threads.get ((0 : Nat) + (Int.toNat (IntKind.i64.wrap (((x.m_4.Threads.n : Nat) : Int) - 1))))).n) ((x.m_4.Threads.get ((0 : Nat) + (Int.toNat (IntKind.i64.wrap (((x.m_4.Threads.n : Nat) : Int) - 1))))).get i5).A y3.fst.A) (cond (Nat.beq i4 ((0 : Nat) + (Int.toNat (IntKind.i64.wrap (((x.m_4.Threads.n : Nat) : Int) - 1))))) ((x.m_4.Threads.get ((0 : Nat) + (Int.toNat (IntKind.i64.wrap (((x.m_4.Threads.n : Nat) : Int) - 1))))).get i5).A ((x.m_4.Threads.get i4).get i5).A)) (cond (Nat.beq i4 ((0 : Nat) + (Int.toNat (IntKind.i64.wrap (((x.m_4.Threads.n : Nat) : Int) - 1))))) (cond (Nat.blt i5 (x.m_4.Threads.get ((0 : Nat) + (Int.toNat (IntKind.i64.wrap (((x.m_4.Threads.n : Nat) : Int) - 1))))).n) ((x.m_4.Threads.get ((0 : Nat) + (Int.toNat (IntKind.i64.wrap (((x.m_4.Threads.n : Nat) : Int) - 1))))).get i5).B y3.fst.B) (cond (Nat.beq i4 ((0 : Nat) + (Int.toNat (IntKind.i64.wrap (((x.m_4.Threads.n : Nat) : Int) - 1))))) ((x.m_4.Threads.get ((0 : Nat) + (Int.toNat (IntKind.i64.wrap (((x.m_4.Threads.n : Nat) : Int) - 1))))).get i5).B ((x.m_4.Threads.get i4).get i5).B)) (cond (Nat.beq i4 ((0 : Nat) + (Int.toNat (IntKind.i64.wrap (((x.m_4.Threads.n : Nat) : Int) - 1))))) (cond (Nat.blt i5 (x.m_4.Threads.get ((0 : Nat) + (Int.toNat (IntKind.i64.wrap (((x.m_4.Threads.n : Nat) : Int) - 1))))).n) ((x.m_4.Threads.get ((0 : Nat) + (Int.toNat (IntKind.i64.wrap (((x.m_4.Threads.n : Nat) : Int) - 1))))).get i5).C y3.fst.C) (cond (Nat.beq i4 ((0 : Nat) + (Int.toNat (IntKind.i64.wrap (((x.m_4.Threads.n : Nat) : Int) - 1))))) ((x.m_4.Threads.get ((0 : Nat) + (Int.toNat (IntKind.i64.wrap (((x.m_4.Threads.n : Nat) : Int) - 1))))).get i5).C ((x.m_4.Threads.get i4).get i5).C)) (cond (Nat.beq i4 ((0 : Nat) + (Int.toNat (IntKind.i64.wrap (((x.m_4.Threads.n : Nat) : Int) - 1))))) (cond (Nat.blt i5 (x.m_4.Threads.get ((0 : Nat) + (Int.toNat (IntKind.i64.wrap (((x.m_4.Threads.n : Nat) : Int) - 1))))).n) ((x.m_4.Threads.get ((0 : Nat) + (Int.toNat (IntKind.i64.wrap (((x.m_4.Threads.n : Nat) : Int) - 1))))).get i5).D y3.fst.D) (cond (Nat.beq i4 ((0 : Nat) + (Int.toNat (IntKind.i64.wrap (((x.m_4.Threads.n : Nat) : Int) - 1))))) ((x.m_4.Threads.get ((0 : Nat) + (Int.toNat (IntKind.i64.wrap (((x.m_4.Threads.n : Nat) : Int) - 1))))).get i5).D ((x.m_4.Threads.get i4).get i5).D)) (cond (Nat.beq i4 ((0 : Nat) + (Int.toNat (IntKind.i64.wrap (((x.m_4.Threads.n : Nat) : Int) - 1))))) (cond (Nat.blt i5 (x.m_4.Threads.get ((0 : Nat) + (Int.toNat (IntKind.i64.wrap (((x.m_4.Threads.n : Nat) : Int) - 1))))).n) ((x.m_4.Threads.get ((0 : Nat) + (Int.toNat (IntKind.i64.wrap (((x.m_4.Threads.n : Nat) : Int) - 1))))).get i5).K y3.fst.K) (cond (Nat.beq i4 ((0 : Nat) + (Int.toNat (IntKind.i64.wrap (((x.m_4.Threads.n : Nat) : Int) - 1))))) ((x.m_4.Threads.get ((0 : Nat) + (Int.toNat (IntKind.i64.wrap (((x.m_4.Threads.n : Nat) : Int) - 1))))).get i5).K ((x.m_4.Threads.get i4).get i5).K)))))))))))))))))
 (.need ((true && true) && (Nat.beq x.m_4.Threads.n x.m_4.Threads.n)) <|
 (.ret ((TApi_Program.mk (Sl.mk true 0 (fun _i4 => (TApi_Ring.mk 0 0 0))) (Sl.mk true 0 (fun _i4 => (Sl.mk true 0 (fun _i5 => (TApi_Instr.mk 0 0 0 0 0 0)))))), x.line_6))))))
 (.ret ((TApi_Program.mk (Sl.mk true 0 (fun _i4 => (TApi_Ring.mk 0 0 0))) (Sl.mk true 0 (fun _i4 => (Sl.mk true 0 (fun _i5 => (TApi_Instr.mk 0 0 0 0 0 0)))))), x.line_6)))
 (.ret ((TApi_Program.mk (Sl.mk true 0 (fun _i4 => (TApi_Ring.mk 0 0 0))) (Sl.mk true 0 (fun _i4 => (Sl.mk true 0 (fun _i5 => (TApi_Instr.mk 0 0 0 0 0 0)))))), x.line_6)))))
 (.ite (seq (ByteArray.extract x.s_0 (Int.toNat x.at_5) (Int.toNat x.i_7)) (ByteArray.mk #[116, 104, 114, 101, 97, 100]))
 (.ite (ilt ((x.m_4.Threads.n : Nat) : Int) 8)
 (.need (true && (room (x.m_4.Threads.n + 1) 24)) <|
 (.jump S_r10_Read_18 (D_r10_Read_18 D_r10_Read_4) (X_r10_Read_18.mk x.s_0 x.line_6 x.i_7 x.m_2 (TApi_Program.mk x.m_4.Rings (Sl.mk (cond (Nat.beq 1 0) x.m_4.Threads.nil false) (x.m_4.Threads.n + 1) (fun i4 => (Sl.mk (cond (Nat.blt i4 x.m_4.Threads.n) (x.m_4.Threads.get i4).nil true) (cond (Nat.blt i4 x.m_4.Threads.n) (x.m_4.Threads.get i4).n (0 : Nat)) (fun i5 => (TApi_Instr.mk (cond (Nat.blt i4 x.m_4.Threads.n) ((x.m_4.Threads.get i4).get i5).Op (0 : Int)) (cond (Nat.blt i4 x.m_4.Threads.n) ((x.m_4.Threads.get i4).get i5).A (0 : Int)) (cond (Nat.blt i4 x.m_4.Threads.n) ((x.m_4.Threads.get i4).get i5).B (0 : Int)) (cond (Nat.blt i4 x.m_4.Threads.n) ((x.m_4.Threads.get i4).get i5).C (0 : Int)) (cond (Nat.blt i4 x.m_4.Threads.n) ((x.m_4.Threads.get i4).get i5).D (0 : Int)) (cond (Nat.blt i4 x.m_4.Threads.n) ((x.m_4.Threads.get i4).get i5).K (0 : Int)))))))))))
 (.ite y3.snd
 (.ite (ilt 0 ((x.m_4.Threads.n : Nat) : Int))
 (.need (inb (IntKind.i64.wrap (((x.m_4.Threads.n : Nat) : Int) - 1)) x.m_4.Threads.n) <|
 (.need ((Nat.beq x.m_4.Threads.n x.m_4.Threads.n) && true) <|
 (.ite (ilt (((x.m_4.Threads.get ((0 : Nat) + (Int.toNat (IntKind.i64.wrap (((x.m_4.Threads.n : Nat) : Int) - 1))))).n : Nat) : Int) 256)
 (.need ((true && true) && (Nat.beq x.m_4.Threads.n x.m_4.Threads.n)) <|
 (.need (inb (IntKind.i64.wrap (((x.m_4.Threads.n : Nat) : Int) - 1)) x.m_4.Threads.n) <|
 (.need ((Nat.beq x.m_4.Threads.n x.m_4.Threads.n) && true) <|
 (.need (true && (room ((x.m_4.Threads.get ((0 : Nat) + (Int.toNat (IntKind.i64.wrap (((x.m_4.Threads.n : Nat) : Int) - 1))))).n + 1) 48)) <|
 (.need (inb (IntKind.i64.wrap (((x.m_4.Threads.n : Nat) : Int) - 1)) x.m_4.Threads.n) <|
 (.need ((Nat.beq x.m_4.Threads.n x.m_4.Threads.n) && true) <|
 (.need ((true && true) && (Nat.beq x.m_4.Threads.n x.m_4.Threads.n)) <|
 (.jumpP (tokP_r10_Read_18 (X_r10_Read_18.mk x.s_0 x.line_6 x.i_7 x.m_2 (TApi_Program.mk x.m_4.Rings (Sl.mk x.m_4.Threads.nil x.m_4.Threads.n (fun i4 => (Sl.mk (cond (Nat.beq i4 ((0 : Nat) + (Int.toNat (IntKind.i64.wrap (((x.m_4.Threads.n : Nat) : Int) - 1))))) (cond (Nat.beq 1 0) (x.m_4.Threads.get ((0 : Nat) + (Int.toNat (IntKind.i64.wrap (((x.m_4.Threads.n : Nat) : Int) - 1))))).nil false) (cond (Nat.beq i4 ((0 : Nat) + (Int.toNat (IntKind.i64.wrap (((x.m_4.Threads.n : Nat) : Int) - 1))))) (x.m_4.Threads.get ((0 : Nat) + (Int.toNat (IntKind.i64.wrap (((x.m_4.Threads.n : Nat) : Int) - 1))))).nil (x.m_4.Threads.get i4).nil)) (cond (Nat.beq i4 ((0 : Nat) + (Int.toNat (IntKind.i64.wrap (((x.m_4.Threads.n : Nat) : Int) - 1))))) ((x.m_4.Threads.get ((0 : Nat) + (Int.toNat (IntKind.i64.wrap (((x.m_4.Threads.n : Nat) : Int) - 1))))).n + 1) (cond (Nat.beq i4 ((0 : Nat) + (Int.toNat (IntKind.i64.wrap (((x.m_4.Threads.n : Nat) : Int) - 1))))) (x.m_4.Threads.get ((0 : Nat) + (Int.toNat (IntKind.i64.wrap (((x.m_4.Threads.n : Nat) : Int) - 1))))).n (x.m_4.Threads.get i4).n)) (fun i5 => (TApi_Instr.mk (cond (Nat.beq i4 ((0 : Nat) + (Int.toNat (IntKind.i64.wrap (((x.m_4.Threads.n : Nat) : Int) - 1))))) (cond (Nat.blt i5 (x.m_4.Threads.get ((0 : Nat) + (Int.toNat (IntKind.i64.wrap (((x.m_4.Threads.n : Nat) : Int) - 1))))).n) ((x.m_4.Threads.get ((0 : Nat) + (Int.toNat (IntKind.i64.wrap (((x.m_4.Threads.n : Nat) : Int) - 1))))).get i5).Op y3.fst.Op) (cond (Nat.beq i4 ((0 : Nat) + (Int.toNat (IntKind.i64.wrap (((x.m_4.Threads.n : Nat) : Int) - 1))))) ((x.m_4.Threads.get ((0 : Nat) + (Int.toNat (IntKind.i64.wrap (((x.m_4.Threads.n : Nat) : Int) - 1))))).get i5).Op ((x.m_4.Threads.get i4).get i5).Op)) (cond (Nat.beq i4 ((0 : Nat) + (Int.toNat (IntKind.i64.wrap (((x.m_4.Threads.n : Nat) : Int) - 1))))) (cond (Nat.blt i5 (x.m_4.Threads.get ((0 : Nat) + (Int.toNat (IntKind.i64.wrap (((x.m_4.Threads.n : Nat) : Int) - 1))))).n) ((x.m_4.Threads.get ((0 : Nat) + (Int.toNat (IntKind.i64.wrap (((x.m_4.Threads.n : Nat) : Int) - 1))))).get i5).A y3.fst.A) (cond (Nat.beq i4 ((0 : Nat) + (Int.toNat (IntKind.i64.wrap (((x.m_4.Threads.n : Nat) : Int) - 1))))) ((x.m_4.Threads.get ((0 : Nat) + (Int.toNat (IntKind.i64.wrap (((x.m_4.Threads.n : Nat) : Int) - 1))))).get i5).A ((x.m_4.Threads.get i4).get i5).A)) (cond (Nat.beq i4 ((0 : Nat) + (Int.toNat (IntKind.i64.wrap (((x.m_4.Threads.n : Nat) : Int) - 1))))) (cond (Nat.blt i5 (x.m_4.Threads.get ((0 : Nat) + (Int.toNat (IntKind.i64.wrap (((x.m_4.Threads.n : Nat) : Int) - 1))))).n) ((x.m_4.Threads.get ((0 : Nat) + (Int.toNat (IntKind.i64.wrap (((x.m_4.Threads.n : Nat) : Int) - 1))))).get i5).B y3.fst.B) (cond (Nat.beq i4 ((0 : Nat) + (Int.toNat (IntKind.i64.wrap (((x.m_4.Threads.n : Nat) : Int) - 1))))) ((x.m_4.Threads.get ((0 : Nat) + (Int.toNat (IntKind.i64.wrap (((x.m_4.Threads.n : Nat) : Int) - 1))))).get i5).B ((x.m_4.Threads.get i4).get i5).B)) (cond (Nat.beq i4 ((0 : Nat) + (Int.toNat (IntKind.i64.wrap (((x.m_4.Threads.n : Nat) : Int) - 1))))) (cond (Nat.blt i5 (x.m_4.Threads.get ((0 : Nat) + (Int.toNat (IntKind.i64.wrap (((x.m_4.Threads.n : Nat) : Int) - 1))))).n) ((x.m_4.Threads.get ((0 : Nat) + (Int.toNat (IntKind.i64.wrap (((x.m_4.Threads.n : Nat) : Int) - 1))))).get i5).C y3.fst.C) (cond (Nat.beq i4 ((0 : Nat) + (Int.toNat (IntKind.i64.wrap (((x.m_4.Threads.n : Nat) : Int) - 1))))) ((x.m_4.Threads.get ((0 : Nat) + (Int.toNat (IntKind.i64.wrap (((x.m_4.Threads.n : Nat) : Int) - 1))))).get i5).C ((x.m_4.Threads.get i4).get i5).C)) (cond (Nat.beq i4 ((0 : Nat) + (Int.toNat (IntKind.i64.wrap (((x.m_4.Threads.n : Nat) : Int) - 1))))) (cond (Nat.blt i5 (x.m_4.Threads.get ((0 : Nat) + (Int.toNat (IntKind.i64.wrap (((x.m_4.Threads.n : Nat) : Int) - 1))))).n) ((x.m_4.Threads.get ((0 : Nat) + (Int.toNat (IntKind.i64.wrap (((x.m_4.Threads.n : Nat) : Int) - 1))))).get i5).D y3.fst.D) (cond (Nat.beq i4 ((0 : Nat) + (Int.toNat (IntKind.i64.wrap (((x.m_4.Threads.n : Nat) : Int) - 1))))) ((x.m_4.Threads.get ((0 : Nat) + (Int.toNat (IntKind.i64.wrap (((x.m_4.Threads.n : Nat) : Int) - 1))))).get i5).D ((x.m_4.Threads.get i4).get i5).D)) (cond (Nat.beq i4 ((0 : Nat) + (Int.toNat (IntKind.i64.wrap (((x.m_4.Threads.n : Nat) : Int) - 1))))) (cond (Nat.blt i5 (x.m_4.Threads.get ((0 : Nat) + (Int.toNat (IntKind.i64.wrap (((x.m_4.Threads.n : Nat) : Int) - 1))))).n) ((x.m_4.Threads.get ((0 : Nat) + (Int.toNat (IntKind.i64.wrap (((x.m_4.Threads.n : Nat) : Int) - 1))))).get i5).K y3.fst.K) (cond (Nat.beq i4 ((0 : Nat) + (Int.toNat (IntKind.i64.wrap (((x.m_4.Threads.n : Nat) : Int) - 1))))) ((x.m_4.Threads.get ((0 : Nat) + (Int.toNat (IntKind.i64.wrap (((x.m_4.Threads.n : Nat) : Int) - 1))))).get i5).K ((x.m_4.Threads.get i4).get i5).K))))))))) ((0 : Nat) + (Int.toNat (IntKind.i64.wrap (((x.m_4.Threads.n : Nat) : Int) - 1))))) S_r10_Read_18 (D_r10_Read_18 D_r10_Read_4) (X_r10_Read_18.mk x.s_0 x.line_6 x.i_7 x.m_2 (TApi_Program.mk x.m_4.Rings (Sl.mk x.m_4.Threads.nil x.m_4.Threads.n (fun i4 => (Sl.mk (cond (Nat.beq i4 ((0 : Nat) + (Int.toNat (IntKind.i64.wrap (((x.m_4.Threads.n : Nat) : Int) - 1))))) (cond (Nat.beq 1 0) (x.m_4.Threads.get ((0 : Nat) + (Int.toNat (IntKind.i64.wrap (((x.m_4.Threads.n : Nat) : Int) - 1))))).nil false) (cond (Nat.beq i4 ((0 : Nat) + (Int.toNat (IntKind.i64.wrap (((x.m_4.Threads.n : Nat) : Int) - 1))))) (x.m_4.Threads.get ((0 : Nat) + (Int.toNat (IntKind.i64.wrap (((x.m_4.Threads.n : Nat) : Int) - 1))))).nil (x.m_4.Threads.get i4).nil)) (cond (Nat.beq i4 ((0 : Nat) + (Int.toNat (IntKind.i64.wrap (((x.m_4.Threads.n : Nat) : Int) - 1))))) ((x.m_4.Threads.get ((0 : Nat) + (Int.toNat (IntKind.i64.wrap (((x.m_4.Threads.n : Nat) : Int) - 1))))).n + 1) (cond (Nat.beq i4 ((0 : Nat) + (Int.toNat (IntKind.i64.wrap (((x.m_4.Threads.n : Nat) : Int) - 1))))) (x.m_4.Threads.get ((0 : Nat) + (Int.toNat (IntKind.i64.wrap (((x.m_4.Threads.n : Nat) : Int) - 1))))).n (x.m_4.Threads.get i4).n)) (fun i5 => (TApi_Instr.mk (cond (Nat.beq i4 ((0 : Nat) + (Int.toNat (IntKind.i64.wrap (((x.m_4.Threads.n : Nat) : Int) - 1))))) (cond (Nat.blt i5 (x.m_4.Threads.get ((0 : Nat) + (Int.toNat (IntKind.i64.wrap (((x.m_4.Threads.n : Nat) : Int) - 1))))).n) ((x.m_4.Threads.get ((0 : Nat) + (Int.toNat (IntKind.i64.wrap (((x.m_4.Threads.n : Nat) : Int) - 1))))).get i5).Op y3.fst.Op) (cond (Nat.beq i4 ((0 : Nat) + (Int.toNat (IntKind.i64.wrap (((x.m_4.Threads.n : Nat) : Int) - 1))))) ((x.m_4.Threads.get ((0 : Nat) + (Int.toNat (IntKind.i64.wrap (((x.m_4.Threads.n : Nat) : Int) - 1))))).get i5).Op ((x.m_4.Threads.get i4).get i5).Op)) (cond (Nat.beq i4 ((0 : Nat) + (Int.toNat (IntKind.i64.wrap (((x.m_4.Threads.n : Nat) : Int) - 1))))) (cond (Nat.blt i5 (x.m_4.Threads.get ((0 : Nat) + (Int.toNat (IntKind.i64.wrap (((x.m_4.Threads.n : Nat) : Int) - 1))))).n) ((x.m_4.Threads.get ((0 : Nat) + (Int.toNat (IntKind.i64.wrap (((x.m_4.Threads.n : Nat) : Int) - 1))))).get i5).A y3.fst.A) (cond (Nat.beq i4 ((0 : Nat) + (Int.toNat (IntKind.i64.wrap (((x.m_4.Threads.n : Nat) : Int) - 1))))) ((x.m_4.Threads.get ((0 : Nat) + (Int.toNat (IntKind.i64.wrap (((x.m_4.Threads.n : Nat) : Int) - 1))))).get i5).A ((x.m_4.Threads.get i4).get i5).A)) (cond (Nat.beq i4 ((0 : Nat) + (Int.toNat (IntKind.i64.wrap (((x.m_4.Threads.n : Nat) : Int) - 1))))) (cond (Nat.blt i5 (x.m_4.Threads.get ((0 : Nat) + (Int.toNat (IntKind.i64.wrap (((x.m_4.Threads.n : Nat) : Int) - 1))))).n) ((x.m_4.Threads.get ((0 : Nat) + (Int.toNat (IntKind.i64.wrap (((x.m_4.Threads.n : Nat) : Int) - 1))))).get i5).B y3.fst.B) (cond (Nat.beq i4 ((0 : Nat) + (Int.toNat (IntKind.i64.wrap (((x.m_4.Threads.n : Nat) : Int) - 1))))) ((x.m_4.Threads.get ((0 : Nat) + (Int.toNat (IntKind.i64.wrap (((x.m_4.Threads.n : Nat) : Int) - 1))))).get i5).B ((x.m_4.Threads.get i4).get i5).B)) (cond (Nat.beq i4 ((0 : Nat) + (Int.toNat (IntKind.i64.wrap (((x.m_4.Threads.n : Nat) : Int) - 1))))) (cond (Nat.blt i5 (x.m_4.Threads.get ((0 : Nat) + (Int.toNat (IntKind.i64.wrap (((x.m_4.Threads.n : Nat) : Int) - 1))))).n) ((x.m_4.Threads.get ((0 : Nat) + (Int.toNat (IntKind.i64.wrap (((x.m_4.Threads.n : Nat) : Int) - 1))))).get i5).C y3.fst.C) (cond (Nat.beq i4 ((0 : Nat) + (Int.toNat (IntKind.i64.wrap (((x.m_4.Threads.n : Nat) : Int) - 1))))) ((x.m_4.Threads.get ((0 : Nat) + (Int.toNat (IntKind.i64.wrap (((x.m_4.Threads.n : Nat) : Int) - 1))))).get i5).C ((x.m_4.Threads.get i4).get i5).C)) (cond (Nat.beq i4 ((0 : Nat) + (Int.toNat (IntKind.i64.wrap (((x.m_4.Threads.n : Nat) : Int) - 1))))) (cond (Nat.blt i5 (x.m_4.Threads.get ((0 : Nat) + (Int.toNat (IntKind.i64.wrap (((x.m_4.Threads.n : Nat) : Int) - 1))))).n) ((x.m_4.Threads.get ((0 : Nat) + (Int.toNat (IntKind.i64.wrap (((x.m_4.Threads.n : Nat) : Int) - 1))))).get i5).D y3.fst.D) (cond (Nat.beq i4 ((0 : Nat) + (Int.toNat (IntKind.i64.wrap (((x.m_4.Threads.n : Nat) : Int) - 1))))) ((x.m_4.Threads.get ((0 : Nat) + (Int.toNat (IntKind.i64.wrap (((x.m_4.Threads.n : Nat) : Int) - 1))))).get i5).D ((x.m_4.Threads.get i4).get i5).D)) (cond (Nat.beq i4 ((0 : Nat) + (Int.toNat (IntKind.i64.wrap (((x.m_4.Threads.n : Nat) : Int) - 1))))) (cond (Nat.blt i5 (x.m_4.Threads.get ((0 : Nat) + (Int.toNat (IntKind.i64.wrap (((x.m_4.Threads.n : Nat) : Int) - 1))))).n) ((x.m_4.Threads.get ((0 : Nat) + (Int.toNat (IntKind.i64.wrap (((x.m_4.Threads.n : Nat) : Int) - 1))))).get i5).K y3.fst.K) (cond (Nat.beq i4 ((0 : Nat) + (Int.toNat (IntKind.i64.wrap (((x.m_4.Threads.n : Nat) : Int) - 1))))) ((x.m_4.Threads.get ((0 : Nat) + (Int.toNat (IntKind.i64.wrap (((x.m_4.Threads.n : Nat) : Int) - 1))))).get i5).K ((x.m_4.Threads.get i4).get i5).K)))))))))))))))))
 (.need ((true && true) && (Nat.beq x.m_4.Threads.n x.m_4.Threads.n)) <|
 (.ret ((TApi_Program.mk (Sl.mk true 0 (fun _i4 => (TApi_Ring.mk 0 0 0))) (Sl.mk true 0 (fun _i4 => (Sl.mk true 0 (fun _i5 => (TApi_Instr.mk 0 0 0 0 0 0)))))), x.line_6))))))
 (.ret ((TApi_Program.mk (Sl.mk true 0 (fun _i4 => (TApi_Ring.mk 0 0 0))) (Sl.mk true 0 (fun _i4 => (Sl.mk true 0 (fun _i5 => (TApi_Instr.mk 0 0 0 0 0 0)))))), x.line_6)))
 (.ret ((TApi_Program.mk (Sl.mk true 0 (fun _i4 => (TApi_Ring.mk 0 0 0))) (Sl.mk true 0 (fun _i4 => (Sl.mk true 0 (fun _i5 => (TApi_Instr.mk 0 0 0 0 0 0)))))), x.line_6))))
 (.ite y3.snd
 (.ite (ilt 0 ((x.m_4.Threads.n : Nat) : Int))
 (.need (inb (IntKind.i64.wrap (((x.m_4.Threads.n : Nat) : Int) - 1)) x.m_4.Threads.n) <|
 (.need ((Nat.beq x.m_4.Threads.n x.m_4.Threads.n) && true) <|
 (.ite (ilt (((x.m_4.Threads.get ((0 : Nat) + (Int.toNat (IntKind.i64.wrap (((x.m_4.Threads.n : Nat) : Int) - 1))))).n : Nat) : Int) 256)
 (.need ((true && true) && (Nat.beq x.m_4.Threads.n x.m_4.Threads.n)) <|
 (.need (inb (IntKind.i64.wrap (((x.m_4.Threads.n : Nat) : Int) - 1)) x.m_4.Threads.n) <|
 (.need ((Nat.beq x.m_4.Threads.n x.m_4.Threads.n) && true) <|
 (.need (true && (room ((x.m_4.Threads.get ((0 : Nat) + (Int.toNat (IntKind.i64.wrap (((x.m_4.Threads.n : Nat) : Int) - 1))))).n + 1) 48)) <|
 (.need (inb (IntKind.i64.wrap (((x.m_4.Threads.n : Nat) : Int) - 1)) x.m_4.Threads.n) <|
 (.need ((Nat.beq x.m_4.Threads.n x.m_4.Threads.n) && true) <|
 (.need ((true && true) && (Nat.beq x.m_4.Threads.n x.m_4.Threads.n)) <|
 (.jumpP (tokP_r10_Read_18 (X_r10_Read_18.mk x.s_0 x.line_6 x.i_7 x.m_2 (TApi_Program.mk x.m_4.Rings (Sl.mk x.m_4.Threads.nil x.m_4.Threads.n (fun i4 => (Sl.mk (cond (Nat.beq i4 ((0 : Nat) + (Int.toNat (IntKind.i64.wrap (((x.m_4.Threads.n : Nat) : Int) - 1))))) (cond (Nat.beq 1 0) (x.m_4.Threads.get ((0 : Nat) + (Int.toNat (IntKind.i64.wrap (((x.m_4.Threads.n : Nat) : Int) - 1))))).nil false) (cond (Nat.beq i4 ((0 : Nat) + (Int.toNat (IntKind.i64.wrap (((x.m_4.Threads.n : Nat) : Int) - 1))))) (x.m_4.Threads.get ((0 : Nat) + (Int.toNat (IntKind.i64.wrap (((x.m_4.Threads.n : Nat) : Int) - 1))))).nil (x.m_4.Threads.get i4).nil)) (cond (Nat.beq i4 ((0 : Nat) + (Int.toNat (IntKind.i64.wrap (((x.m_4.Threads.n : Nat) : Int) - 1))))) ((x.m_4.Threads.get ((0 : Nat) + (Int.toNat (IntKind.i64.wrap (((x.m_4.Threads.n : Nat) : Int) - 1))))).n + 1) (cond (Nat.beq i4 ((0 : Nat) + (Int.toNat (IntKind.i64.wrap (((x.m_4.Threads.n : Nat) : Int) - 1))))) (x.m_4.Threads.get ((0 : Nat) + (Int.toNat (IntKind.i64.wrap (((x.m_4.Threads.n : Nat) : Int) - 1))))).n (x.m_4.Threads.get i4).n)) (fun i5 => (TApi_Instr.mk (cond (Nat.beq i4 ((0 : Nat) + (Int.toNat (IntKind.i64.wrap (((x.m_4.Threads.n : Nat) : Int) - 1))))) (cond (Nat.blt i5 (x.m_4.Threads.get ((0 : Nat) + (Int.toNat (IntKind.i64.wrap (((x.m_4.Threads.n : Nat) : Int) - 1))))).n) ((x.m_4.Threads.get ((0 : Nat) + (Int.toNat (IntKind.i64.wrap (((x.m_4.Threads.n : Nat) : Int) - 1))))).get i5).Op y3.fst.Op) (cond (Nat.beq i4 ((0 : Nat) + (Int.toNat (IntKind.i64.wrap (((x.m_4.Threads.n : Nat) : Int) - 1))))) ((x.m_4.Threads.get ((0 : Nat) + (Int.toNat (IntKind.i64.wrap (((x.m_4.Threads.n : Nat) : Int) - 1))))).get i5).Op ((x.m_4.Threads.get i4).get i5).Op)) (cond (Nat.beq i4 ((0 : Nat) + (Int.toNat (IntKind.i64.wrap (((x.m_4.Threads.n : Nat) : Int) - 1))))) (cond (Nat.blt i5 (x.m_4.Threads.get ((0 : Nat) + (Int.toNat (IntKind.i64.wrap (((x.m_4.Threads.n : Nat) : Int) - 1))))).n) ((x.m_4.Threads.get ((0 : Nat) + (Int.toNat (IntKind.i64.wrap (((x.m_4.Threads.n : Nat) : Int) - 1))))).get i5).A y3.fst.A) (cond (Nat.beq i4 ((0 : Nat) + (Int.toNat (IntKind.i64.wrap (((x.m_4.Threads.n : Nat) : Int) - 1))))) ((x.m_4.Threads.get ((0 : Nat) + (Int.toNat (IntKind.i64.wrap (((x.m_4.Threads.n : Nat) : Int) - 1))))).get i5).A ((x.m_4.Threads.get i4).get i5).A)) (cond (Nat.beq i4 ((0 : Nat) + (Int.toNat (IntKind.i64.wrap (((x.m_4.Threads.n : Nat) : Int) - 1))))) (cond (Nat.blt i5 (x.m_4.Threads.get ((0 : Nat) + (Int.toNat (IntKind.i64.wrap (((x.m_4.Threads.n : Nat) : Int) - 1))))).n) ((x.m_4.Threads.get ((0 : Nat) + (Int.toNat (IntKind.i64.wrap (((x.m_4.Threads.n : Nat) : Int) - 1))))).get i5).B y3.fst.B) (cond (Nat.beq i4 ((0 : Nat) + (Int.toNat (IntKind.i64.wrap (((x.m_4.Threads.n : Nat) : Int) - 1))))) ((x.m_4.Threads.get ((0 : Nat) + (Int.toNat (IntKind.i64.wrap (((x.m_4.Threads.n : Nat) : Int) - 1))))).get i5).B ((x.m_4.Threads.get i4).get i5).B)) (cond (Nat.beq i4 ((0 : Nat) + (Int.toNat (IntKind.i64.wrap (((x.m_4.Threads.n : Nat) : Int) - 1))))) (cond (Nat.blt i5 (x.m_4.Threads.get ((0 : Nat) + (Int.toNat (IntKind.i64.wrap (((x.m_4.Threads.n : Nat) : Int) - 1))))).n) ((x.m_4.Threads.get ((0 : Nat) + (Int.toNat (IntKind.i64.wrap (((x.m_4.Threads.n : Nat) : Int) - 1))))).get i5).C y3.fst.C) (cond (Nat.beq i4 ((0 : Nat) + (Int.toNat (IntKind.i64.wrap (((x.m_4.Threads.n : Nat) : Int) - 1))))) ((x.m_4.Threads.get ((0 : Nat) + (Int.toNat (IntKind.i64.wrap (((x.m_4.Threads.n : Nat) : Int) - 1))))).get i5).C ((x.m_4.Threads.get i4).get i5).C)) (cond (Nat.beq i4 ((0 : Nat) + (Int.toNat (IntKind.i64.wrap (((x.m_4.Threads.n : Nat) : Int) - 1))))) (cond (Nat.blt i5 (x.m_4.Threads.get ((0 : Nat) + (Int.toNat (IntKind.i64.wrap (((x.m_4.Threads.n : Nat) : Int) - 1))))).n) ((x.m_4.Threads.get ((0 : Nat) + (Int.toNat (IntKind.i64.wrap (((x.m_4.Threads.n : Nat) : Int) - 1))))).get i5).D y3.fst.D) (cond (Nat.beq i4 ((0 : Nat) + (Int.toNat (IntKind.i64.wrap (((x.m_4.Threads.n : Nat) : Int) - 1))))) ((x.m_4.Threads.get ((0 : Nat) + (Int.toNat (IntKind.i64.wrap (((x.m_4.Threads.n : Nat) : Int) - 1))))).get i5).D ((x.m_4.Threads.get i4).get i5).D)) (cond (Nat.beq i4 ((0 : Nat) + (Int.toNat (IntKind.i64.wrap (((x.m_4.Threads.n : Nat) : Int) - 1))))) (cond (Nat.blt i5 (x.m_4.Threads.get ((0 : Nat) + (Int.toNat (IntKind.i64.wrap (((x.m_4.Threads.n : Nat) : Int) - 1))))).n) ((x.m_4.Threads.get ((0 : Nat) + (Int.toNat (IntKind.i64.wrap (((x.m_4.Threads.n : Nat) : Int) - 1))))).get i5).K y3.fst.K) (cond (Nat.beq i4 ((0 : Nat) + (Int.toNat (IntKind.i64.wrap (((x.m_4.Threads.n : Nat) : Int) - 1))))) ((x.m_4.Threads.get ((0 : Nat) + (Int.toNat (IntKind.i64.wrap (((x.m_4.Threads.n : Nat) : Int) - 1))))).get i5).K ((x.m_4.Threads.get i4).get i5).K))))))))) ((0 : Nat) + (Int.toNat (IntKind.i64.wrap (((x.m_4.Threads.n : Nat) : Int) - 1))))) S_r10_Read_18 (D_r10_Read_18 D_r10_Read_4) (X_r10_Read_18.mk x.s_0 x.line_6 x.i_7 x.m_2 (TApi_Program.mk x.m_4.Rings (Sl.mk x.m_4.Threads.nil x.m_4.Threads.n (fun i4 => (Sl.mk (cond (Nat.beq i4 ((0 : Nat) + (Int.toNat (IntKind.i64.wrap (((x.m_4.Threads.n : Nat) : Int) - 1))))) (cond (Nat.beq 1 0) (x.m_4.Threads.get ((0 : Nat) + (Int.toNat (IntKind.i64.wrap (((x.m_4.Threads.n : Nat) : Int) - 1))))).nil false) (cond (Nat.beq i4 ((0 : Nat) + (Int.toNat (IntKind.i64.wrap (((x.m_4.Threads.n : Nat) : Int) - 1))))) (x.m_4.Threads.get ((0 : Nat) + (Int.toNat (IntKind.i64.wrap (((x.m_4.Threads.n : Nat) : Int) - 1))))).nil (x.m_4.Threads.get i4).nil)) (cond (Nat.beq i4 ((0 : Nat) + (Int.toNat (IntKind.i64.wrap (((x.m_4.Threads.n : Nat) : Int) - 1))))) ((x.m_4.Threads.get ((0 : Nat) + (Int.toNat (IntKind.i64.wrap (((x.m_4.Threads.n : Nat) : Int) - 1))))).n + 1) (cond (Nat.beq i4 ((0 : Nat) + (Int.toNat (IntKind.i64.wrap (((x.m_4.Threads.n : Nat) : Int) - 1))))) (x.m_4.Threads.get ((0 : Nat) + (Int.toNat (IntKind.i64.wrap (((x.m_4.Threads.n : Nat) : Int) - 1))))).n (x.m_4.Threads.get i4).n)) (fun i5 => (TApi_Instr.mk (cond (Nat.beq i4 ((0 : Nat) + (Int.toNat (IntKind.i64.wrap (((x.m_4.Threads.n : Nat) : Int) - 1))))) (cond (Nat.blt i5 (x.m_4.Threads.get ((0 : Nat) + (Int.toNat (IntKind.i64.wrap (((x.m_4.Threads.n : Nat) : Int) - 1))))).n) ((x.m_4.Threads.get ((0 : Nat) + (Int.toNat (IntKind.i64.wrap (((x.m_4.Threads.n : Nat) : Int) - 1))))).get i5).Op y3.fst.Op) (cond (Nat.beq i4 ((0 : Nat) + (Int.toNat (IntKind.i64.wrap (((x.m_4.Threads.n : Nat) : Int) - 1))))) ((x.m_4.Threads.get ((0 : Nat) + (Int.toNat (IntKind.i64.wrap (((x.m_4.Threads.n : Nat) : Int) - 1))))).get i5).Op ((x.m_4.Threads.get i4).get i5).Op)) (cond (Nat.beq i4 ((0 : Nat) + (Int.toNat (IntKind.i64.wrap (((x.m_4.Threads.n : Nat) : Int) - 1))))) (cond (Nat.blt i5 (x.m_4.Threads.get ((0 : Nat) + (Int.toNat (IntKind.i64.wrap (((x.m_4.Threads.n : Nat) : Int) - 1))))).n) ((x.m_4.Threads.get ((0 : Nat) + (Int.toNat (IntKind.i64.wrap (((x.m_4.Threads.n : Nat) : Int) - 1))))).get i5).A y3.fst.A) (cond (Nat.beq i4 ((0 : Nat) + (Int.toNat (IntKind.i64.wrap (((x.m_4.Threads.n : Nat) : Int) - 1))))) ((x.m_4.Threads.get ((0 : Nat) + (Int.toNat (IntKind.i64.wrap (((x.m_4.Threads.n : Nat) : Int) - 1))))).get i5).A ((x.m_4.Threads.get i4).get i5).A)) (cond (Nat.beq i4 ((0 : Nat) + (Int.toNat (IntKind.i64.wrap (((x.m_4.Threads.n : Nat) : Int) - 1))))) (cond (Nat.blt i5 (x.m_4.Threads.get ((0 : Nat) + (Int.toNat (IntKind.i64.wrap (((x.m_4.Threads.n : Nat) : Int) - 1))))).n) ((x.m_4.Threads.get ((0 : Nat) + (Int.toNat (IntKind.i64.wrap (((x.m_4.Threads.n : Nat) : Int) - 1))))).get i5).B y3.fst.B) (cond (Nat.beq i4 ((0 : Nat) + (Int.toNat (IntKind.i64.wrap (((x.m_4.Threads.n : Nat) : Int) - 1))))) ((x.m_4.Threads.get ((0 : Nat) + (Int.toNat (IntKind.i64.wrap (((x.m_4.Threads.n : Nat) : Int) - 1))))).get i5).B ((x.m_4.Threads.get i4).get i5).B)) (cond (Nat.beq i4 ((0 : Nat) + (Int.toNat (IntKind.i64.wrap (((x.m_4.Threads.n : Nat) : Int) - 1))))) (cond (Nat.blt i5 (x.m_4.Threads.get ((0 : Nat) + (Int.toNat (IntKind.i64.wrap (((x.m_4.Threads.n : Nat) : Int) - 1))))).n) ((x.m_4.Threads.get ((0 : Nat) + (Int.toNat (IntKind.i64.wrap (((x.m_4.Threads.n : Nat) : Int) - 1))))).get i5).C y3.fst.C) (cond (Nat.beq i4 ((0 : Nat) + (Int.toNat (IntKind.i64.wrap (((x.m_4.Threads.n : Nat) : Int) - 1))))) ((x.m_4.Threads.get ((0 : Nat) + (Int.toNat (IntKind.i64.wrap (((x.m_4.Threads.n : Nat) : Int) - 1))))).get i5).C ((x.m_4.Threads.get i4).get i5).C)) (cond (Nat.beq i4 ((0 : Nat) + (Int.toNat (IntKind.i64.wrap (((x.m_4.Threads.n : Nat) : Int) - 1))))) (cond (Nat.blt i5 (x.m_4.Threads.get ((0 : Nat) + (Int.toNat (IntKind.i64.wrap (((x.m_4.Threads.n : Nat) : Int) - 1))))).n) ((x.m_4.Threads.get ((0 : Nat) + (Int.toNat (IntKind.i64.wrap (((x.m_4.Threads.n : Nat) : Int) - 1))))).get i5).D y3.fst.D) (cond (Nat.beq i4 ((0 : Nat) + (Int.toNat (IntKind.i64.wrap (((x.m_4.Threads.n : Nat) : Int) - 1))))) ((x.m_4.Threads.get ((0 : Nat) + (Int.toNat (IntKind.i64.wrap (((x.m_4.Threads.n : Nat) : Int) - 1))))).get i5).D ((x.m_4.Threads.get i4).get i5).D)) (cond (Nat.beq i4 ((0 : Nat) + (Int.toNat (IntKind.i64.wrap (((x.m_4.Threads.n : Nat) : Int) - 1))))) (cond (Nat.blt i5 (x.m_4.Threads.get ((0 : Nat) + (Int.toNat (IntKind.i64.wrap (((x.m_4.Threads.n : Nat) : Int) - 1))))).n) ((x.m_4.Threads.get ((0 : Nat) + (Int.toNat (IntKind.i64.wrap (((x.m_4.Threads.n : Nat) : Int) - 1))))).get i5).K y3.fst.K) (cond (Nat.beq i4 ((0 : Nat) + (Int.toNat (IntKind.i64.wrap (((x.m_4.Threads.n : Nat) : Int) - 1))))) ((x.m_4.Threads.get ((0 : Nat) + (Int.toNat (IntKind.i64.wrap (((x.m_4.Threads.n : Nat) : Int) - 1))))).get i5).K ((x.m_4.Threads.get i4).get i5).K)))))))))))))))))
 (.need ((true && true) && (Nat.beq x.m_4.Threads.n x.m_4.Threads.n)) <|
 (.ret ((TApi_Program.mk (Sl.mk true 0 (fun _i4 => (TApi_Ring.mk 0 0 0))) (Sl.mk true 0 (fun _i4 => (Sl.mk true 0 (fun _i5 => (TApi_Instr.mk 0 0 0 0 0 0)))))), x.line_6))))))
 (.ret ((TApi_Program.mk (Sl.mk true 0 (fun _i4 => (TApi_Ring.mk 0 0 0))) (Sl.mk true 0 (fun _i4 => (Sl.mk true 0 (fun _i5 => (TApi_Instr.mk 0 0 0 0 0 0)))))), x.line_6)))
 (.ret ((TApi_Program.mk (Sl.mk true 0 (fun _i4 => (TApi_Ring.mk 0 0 0))) (Sl.mk true 0 (fun _i4 => (Sl.mk true 0 (fun _i5 => (TApi_Instr.mk 0 0 0 0 0 0)))))), x.line_6)))))))))))
 (.jump S_r10_Read_20 D_r10_Read_20 (X_r10_Read_20.mk x.s_0 x.at_5 x.line_6 x.m_2 x.m_4)))
theorem sd_r10_Read_4 (D_r10_Read_4 : Dyn X_r10_Read_4 R_r10_Read) (x : X_r10_Read_4) : (tt_r10_Read_4 D_r10_Read_4 x).Sides :=
  (TT.s_ite (TT.s_need (TT.s_ite TT.s_jump (TT.s_need (TT.s_call fun _ => (TT.s_call fun _ => (TT.s_need (TT.s_ite (TT.s_ite (TT.s_ite (TT.s_need TT.s_jump) (TT.s_ite (TT.s_ite (TT.s_need TT.s_jump) (TT.s_ite (TT.s_ite (TT.s_need (TT.s_need (TT.s_ite (TT.s_need (TT.s_need (TT.s_need (TT.s_need (TT.s_need (TT.s_need (TT.s_need (TT.s_jumpP (tokP_r10_Read_18_ok _ _))))))))) (TT.s_need TT.s_ret)))) TT.s_ret) TT.s_ret)) (TT.s_ite (TT.s_ite (TT.s_need (TT.s_need (TT.s_ite (TT.s_need (TT.s_need (TT.s_need (TT.s_need (TT.s_need (TT.s_need (TT.s_need (TT.s_jumpP (tokP_r10_Read_18_ok _ _))))))))) (TT.s_need TT.s_ret)))) TT.s_ret) TT.s_ret))) (TT.s_ite (TT.s_ite (TT.s_need TT.s_jump) (TT.s_ite (TT.s_ite (TT.s_need (TT.s_need (TT.s_ite (TT.s_need (TT.s_need (TT.s_need (TT.s_need (TT.s_need (TT.s_need (TT.s_need (TT.s_jumpP (tokP_r10_Read_18_ok _ _))))))))) (TT.s_need TT.s_ret)))) TT.s_ret) TT.s_ret)) (TT.s_ite (TT.s_ite (TT.s_need (TT.s_need (TT.s_ite (TT.s_need (TT.s_need (TT.s_need (TT.s_need (TT.s_need (TT.s_need (TT.s_need (TT.s_jumpP (tokP_r10_Read_18_ok _ _))))))))) (TT.s_need TT.s_ret)))) TT.s_ret) TT.s_ret))) (TT.s_ite (TT.s_ite (TT.s_need TT.s_jump) (TT.s_ite (TT.s_ite (TT.s_need (TT.s_need (TT.s_ite (TT.s_need (TT.s_need (TT.s_need (TT.s_need (TT.s_need (TT.s_need (TT.s_need (TT.s_jumpP (tokP_r10_Read_18_ok _ _))))))))) (TT.s_need TT.s_ret)))) TT.s_ret) TT.s_ret)) (TT.s_ite (TT.s_ite (TT.s_need (TT.s_need (TT.s_ite (TT.s_need (TT.s_need (TT.s_need (TT.s_need (TT.s_need (TT.s_need (TT.s_need (TT.s_jumpP (tokP_r10_Read_18_ok _ _))))))))) (TT.s_need TT.s_ret)))) TT.s_ret) TT.s_ret))))))))) TT.s_jump)

noncomputable def D_r10_Read_4 : Dyn X_r10_Read_4 R_r10_Read := Dyn.loop tt_r10_Read_4
theorem ok_r10_Read_4 : LabOK J_r10_Read S_r10_Read_4 D_r10_Read_4 :=
  loop_ok fun D_r10_Read_4 h_4 => lab_ok mixed_ok (labs_cons2 h_4 rfl (labs_cons2 ok_r10_Read_20 rfl (labs_cons2 (ok_r10_Read_5 D_r10_Read_4 h_4) rfl (labs_cons2 (ok_r10_Read_18 D_r10_Read_4 h_4) rfl labs_nil)))) 4000 (fun x => by kernel_rfl) (sd_r10_Read_4 D_r10_Read_4)
noncomputable def tt_r10_Read (x : X_r10_Read) : TT Tryz.prog R_r10_Read :=
 (.jump S_r10_Read_4 D_r10_Read_4 (X_r10_Read_4.mk x 0 1 0 (TApi_Program.mk (Sl.mk true 0 (fun _i1 => (TApi_Ring.mk 0 0 0))) (Sl.mk true 0 (fun _i1 => (Sl.mk true 0 (fun _i2 => (TApi_Instr.mk 0 0 0 0 0 0)))))) (TApi_Program.mk (Sl.mk true 0 (fun _i1 => (TApi_Ring.mk 0 0 0))) (Sl.mk true 0 (fun _i1 => (Sl.mk true 0 (fun _i2 => (TApi_Instr.mk 0 0 0 0 0 0))))))))
theorem sd_r10_Read (x : X_r10_Read) : (tt_r10_Read x).Sides :=
  TT.s_jump

noncomputable def D_r10_Read : Dyn X_r10_Read R_r10_Read := .of tt_r10_Read
noncomputable def con_r10_Read : Con Tryz.prog :=
  mkCon 19 J_r10_Read S_r10_Read D_r10_Read D_r10_Read (fun _ _ h => h) 1 0 [.any] (by kernel_rfl) (by kernel_rfl) (by kernel_rfl) (lab_ok mixed_ok (labs_cons2 ok_r10_Read_20 rfl (labs_cons2 ok_r10_Read_4 rfl labs_nil)) 4000 (fun x => by kernel_rfl) sd_r10_Read) rfl rfl (fun _ => rfl) (by kernel_rfl) rfl (fun _ => rfl) (fun x y _ => by kernel_rfl)

/-! rondeaulaw10.ListingReads (w10_ListingReads) -/
abbrev X_w10_ListingReads : Type := ByteArray
abbrev R_w10_ListingReads : Type := Bool
noncomputable def J_w10_ListingReads : Job Tryz.prog :=
  job Tryz.prog Tryz.f4 68 [(18, 1), (24, 1), (43, 1)] [] [] [] [.any] [] [con_listing_Print, con_listing_Read, con_r09_Same, con_r10_Read, con_w10_awake] R_w10_ListingReads [] fun y => [V.bool y]
noncomputable def S_w10_ListingReads : LabS :=
  lab0 Tryz.f4 1 0 X_w10_ListingReads (fun x => [V.str x]) fun l => (dS (at_ l 0))
structure X_w10_ListingReads_3 where
  s_0 : ByteArray
noncomputable def S_w10_ListingReads_3 : LabS :=
  labAt Tryz.f4 3 [(0, .any)] [] [] X_w10_ListingReads_3 (fun x => [V.str x.s_0]) fun l => ⟨dS (at_ l 0)⟩
noncomputable def tt_w10_ListingReads_3 (x : X_w10_ListingReads_3) : TT Tryz.prog R_w10_ListingReads :=
 (.call con_listing_Read x.s_0 fun (y1 : R_listing_Read) =>
 (.call con_r10_Read x.s_0 fun (y2 : R_r10_Read) =>
 (.ite (!(ieq y2.snd 0))
 (.ite (ieq y1.snd.snd 3)
 (.ite (ieq y1.snd.fst y2.snd)
 (.call con_r09_Same (y1.fst, (TApi_Program.mk (Sl.mk true 0 (fun _i3 => (TApi_Ring.mk 0 0 0))) (Sl.mk true 0 (fun _i3 => (Sl.mk true 0 (fun _i4 => (TApi_Instr.mk 0 0 0 0 0 0))))))) fun (y3 : R_r09_Same) =>
 (.ret y3))
 (.ret false))
 (.ret false))
 (.call con_listing_Print y1.fst fun (y3 : R_listing_Print) =>
 (.ite (ieq y1.snd.snd 0)
 (.ite (ieq y1.snd.fst 0)
 (.call con_r09_Same (y1.fst, y2.fst) fun (y4 : R_r09_Same) =>
 (.ite y4
 (.ite (seq y3.fst x.s_0)
 (.ret (ieq y3.snd 0))
 (.ret false))
 (.ret false)))
 (.ret false))
 (.ret false))))))
theorem sd_w10_ListingReads_3 (x : X_w10_ListingReads_3) : (tt_w10_ListingReads_3 x).Sides :=
  (TT.s_call fun _ => (TT.s_call fun _ => (TT.s_ite (TT.s_ite (TT.s_ite (TT.s_call fun _ => TT.s_ret) TT.s_ret) TT.s_ret) (TT.s_call fun _ => (TT.s_ite (TT.s_ite (TT.s_call fun _ => (TT.s_ite (TT.s_ite TT.s_ret TT.s_ret) TT.s_ret)) TT.s_ret) TT.s_ret)))))

noncomputable def D_w10_ListingReads_3 : Dyn X_w10_ListingReads_3 R_w10_ListingReads := .of tt_w10_ListingReads_3
theorem ok_w10_ListingReads_3 : LabOK J_w10_ListingReads S_w10_ListingReads_3 D_w10_ListingReads_3 :=
  lab_ok mixed_ok labs_nil 4000 (fun x => by kernel_rfl) sd_w10_ListingReads_3
noncomputable def tt_w10_ListingReads (x : X_w10_ListingReads) : TT Tryz.prog R_w10_ListingReads :=
 (.call con_w10_awake PUnit.unit fun (y1 : R_w10_awake) =>
 (.ite (!y1)
 (.call con_w10_awake PUnit.unit fun (y2 : R_w10_awake) =>
 (.ret y2))
 (.ite (ilt 1500 (((ByteArray.size x) : Nat) : Int))
 (.call con_w10_awake PUnit.unit fun (y2 : R_w10_awake) =>
 (.ret y2))
 (.jump S_w10_ListingReads_3 D_w10_ListingReads_3 (X_w10_ListingReads_3.mk x)))))
theorem sd_w10_ListingReads (x : X_w10_ListingReads) : (tt_w10_ListingReads x).Sides :=
  (TT.s_call fun _ => (TT.s_ite (TT.s_call fun _ => TT.s_ret) (TT.s_ite (TT.s_call fun _ => TT.s_ret) TT.s_jump)))

noncomputable def D_w10_ListingReads : Dyn X_w10_ListingReads R_w10_ListingReads := .of tt_w10_ListingReads
noncomputable def con_w10_ListingReads : Con Tryz.prog :=
  mkCon 4 J_w10_ListingReads S_w10_ListingReads D_w10_ListingReads D_w10_ListingReads (fun _ _ h => h) 1 0 [.any] (by kernel_rfl) (by kernel_rfl) (by kernel_rfl) (lab_ok mixed_ok (labs_cons2 ok_w10_ListingReads_3 rfl labs_nil) 4000 (fun x => by kernel_rfl) sd_w10_ListingReads) rfl rfl (fun _ => rfl) (by kernel_rfl) rfl (fun _ => rfl) (fun x y _ => by kernel_rfl)

/-! rondeaulaw10.ListingBack (w10_ListingBack) -/
abbrev X_w10_ListingBack : Type := TApi_Program
abbrev R_w10_ListingBack : Type := Bool
noncomputable def J_w10_ListingBack : Job Tryz.prog :=
  job Tryz.prog Tryz.f5 47 [(1, 3), (21, 1), (26, 1)] [] [] [] [.any] [] [con_listing_Print, con_listing_Read, con_r09_Few, con_r09_Same, con_r10_Listed, con_w10_awake] R_w10_ListingBack [] fun y => [V.bool y]
noncomputable def S_w10_ListingBack : LabS :=
  lab0 Tryz.f5 1 0 X_w10_ListingBack (fun x => [e_TApi_Program x]) fun l => (d_TApi_Program (at_ l 0))
structure X_w10_ListingBack_3 where
  p_1 : TApi_Program
noncomputable def S_w10_ListingBack_3 : LabS :=
  labAt Tryz.f5 3 [(1, .any)] [] [] X_w10_ListingBack_3 (fun x => [(eVp e_TApi_Program) x.p_1]) fun l => ⟨(dVp d_TApi_Program) (at_ l 0)⟩
noncomputable def tt_w10_ListingBack_3 (x : X_w10_ListingBack_3) : TT Tryz.prog R_w10_ListingBack :=
 (.call con_listing_Print x.p_1 fun (y1 : R_listing_Print) =>
 (.call con_listing_Read y1.fst fun (y2 : R_listing_Read) =>
 (.ite (ieq y1.snd 0)
 (.ite (ieq y2.snd.snd 0)
 (.ite (ieq y2.snd.fst 0)
 (.call con_r09_Same (x.p_1, y2.fst) fun (y3 : R_r09_Same) =>
 (.ret y3))
 (.ret false))
 (.ret false))
 (.ret false))))
theorem sd_w10_ListingBack_3 (x : X_w10_ListingBack_3) : (tt_w10_ListingBack_3 x).Sides :=
  (TT.s_call fun _ => (TT.s_call fun _ => (TT.s_ite (TT.s_ite (TT.s_ite (TT.s_call fun _ => TT.s_ret) TT.s_ret) TT.s_ret) TT.s_ret)))

noncomputable def D_w10_ListingBack_3 : Dyn X_w10_ListingBack_3 R_w10_ListingBack := .of tt_w10_ListingBack_3
theorem ok_w10_ListingBack_3 : LabOK J_w10_ListingBack S_w10_ListingBack_3 D_w10_ListingBack_3 :=
  lab_ok mixed_ok labs_nil 4000 (fun x => by kernel_rfl) sd_w10_ListingBack_3
noncomputable def tt_w10_ListingBack (x : X_w10_ListingBack) : TT Tryz.prog R_w10_ListingBack :=
 (.call con_w10_awake PUnit.unit fun (y1 : R_w10_awake) =>
 (.ite (!y1)
 (.call con_w10_awake PUnit.unit fun (y2 : R_w10_awake) =>
 (.ret y2))
 (.call con_r09_Few (x, 100) fun (y2 : R_r09_Few) =>
 (.ite (!y2)
 (.call con_w10_awake PUnit.unit fun (y3 : R_w10_awake) =>
 (.ret y3))
 (.call con_r10_Listed x fun (y3 : R_r10_Listed) =>
 (.ite (!y3)
 (.call con_w10_awake PUnit.unit fun (y4 : R_w10_awake) =>
 (.ret y4))
 (.jump S_w10_ListingBack_3 D_w10_ListingBack_3 (X_w10_ListingBack_3.mk x))))))))
theorem sd_w10_ListingBack (x : X_w10_ListingBack) : (tt_w10_ListingBack x).Sides :=
  (TT.s_call fun _ => (TT.s_ite (TT.s_call fun _ => TT.s_ret) (TT.s_call fun _ => (TT.s_ite (TT.s_call fun _ => TT.s_ret) (TT.s_call fun _ => (TT.s_ite (TT.s_call fun _ => TT.s_ret) TT.s_jump))))))

noncomputable def D_w10_ListingBack : Dyn X_w10_ListingBack R_w10_ListingBack := .of tt_w10_ListingBack
noncomputable def con_w10_ListingBack : Con Tryz.prog :=
  mkCon 5 J_w10_ListingBack S_w10_ListingBack D_w10_ListingBack D_w10_ListingBack (fun _ _ h => h) 1 0 [sh_TApi_Program] (by kernel_rfl) (by kernel_rfl) (by kernel_rfl) (lab_ok mixed_ok (labs_cons2 ok_w10_ListingBack_3 rfl labs_nil) 4000 (fun x => by kernel_rfl) sd_w10_ListingBack) rfl rfl (fun _ => rfl) (by kernel_rfl) rfl (fun _ => rfl) (fun x y _ => by kernel_rfl)

/-! rondeaulaw10.ListingOne (w10_ListingOne) -/
abbrev X_w10_ListingOne : Type := TApi_Program × TApi_Program
abbrev R_w10_ListingOne : Type := Bool
noncomputable def J_w10_ListingOne : Job Tryz.prog :=
  job Tryz.prog Tryz.f6 57 [(2, 3), (3, 3), (32, 1), (37, 1)] [] [] [] [.any] [] [con_listing_Print, con_r09_Few, con_r09_Same, con_r10_Listed, con_w10_awake] R_w10_ListingOne [] fun y => [V.bool y]
noncomputable def S_w10_ListingOne : LabS :=
  lab0 Tryz.f6 2 0 X_w10_ListingOne (fun x => [e_TApi_Program x.1, e_TApi_Program x.2]) fun l => (d_TApi_Program (at_ l 0), d_TApi_Program (at_ l 1))
structure X_w10_ListingOne_3 where
  p_2 : TApi_Program
  q_3 : TApi_Program
noncomputable def S_w10_ListingOne_3 : LabS :=
  labAt Tryz.f6 3 [(2, .any), (3, .any)] [] [] X_w10_ListingOne_3 (fun x => [(eVp e_TApi_Program) x.p_2, (eVp e_TApi_Program) x.q_3]) fun l => ⟨(dVp d_TApi_Program) (at_ l 0), (dVp d_TApi_Program) (at_ l 1)⟩
noncomputable def tt_w10_ListingOne_3 (x : X_w10_ListingOne_3) : TT Tryz.prog R_w10_ListingOne :=
 (.call con_listing_Print x.p_2 fun (y1 : R_listing_Print) =>
 (.call con_listing_Print x.q_3 fun (y2 : R_listing_Print) =>
 (.ite (ieq y1.snd 0)
 (.ite (ieq y2.snd 0)
 (.call con_r09_Same (x.p_2, x.q_3) fun (y3 : R_r09_Same) =>
 (.ret ((seq y1.fst y2.fst) == y3)))
 (.ret false))
 (.ret false))))
theorem sd_w10_ListingOne_3 (x : X_w10_ListingOne_3) : (tt_w10_ListingOne_3 x).Sides :=
  (TT.s_call fun _ => (TT.s_call fun _ => (TT.s_ite (TT.s_ite (TT.s_call fun _ => TT.s_ret) TT.s_ret) TT.s_ret)))

noncomputable def D_w10_ListingOne_3 : Dyn X_w10_ListingOne_3 R_w10_ListingOne := .of tt_w10_ListingOne_3
theorem ok_w10_ListingOne_3 : LabOK J_w10_ListingOne S_w10_ListingOne_3 D_w10_ListingOne_3 :=
  lab_ok mixed_ok labs_nil 4000 (fun x => by kernel_rfl) sd_w10_ListingOne_3
noncomputable def tt_w10_ListingOne (x : X_w10_ListingOne) : TT Tryz.prog R_w10_ListingOne :=
 (.call con_w10_awake PUnit.unit fun (y1 : R_w10_awake) =>
 (.ite (!y1)
 (.call con_w10_awake PUnit.unit fun (y2 : R_w10_awake) =>
 (.ret y2))
 (.call con_r09_Few (x.fst, 100) fun (y2 : R_r09_Few) =>
 (.ite (!y2)
 (.call con_w10_awake PUnit.unit fun (y3 : R_w10_awake) =>
 (.ret y3))
 (.call con_r09_Few (x.snd, 100) fun (y3 : R_r09_Few) =>
 (.ite (!y3)
 (.call con_w10_awake PUnit.unit fun (y4 : R_w10_awake) =>
 (.ret y4))
 (.call con_r10_Listed x.fst fun (y4 : R_r10_Listed) =>
 (.ite (!y4)
 (.call con_w10_awake PUnit.unit fun (y5 : R_w10_awake) =>
 (.ret y5))
 (.call con_r10_Listed x.snd fun (y5 : R_r10_Listed) =>
 (.ite (!y5)
 (.call con_w10_awake PUnit.unit fun (y6 : R_w10_awake) =>
 (.ret y6))
 (.jump S_w10_ListingOne_3 D_w10_ListingOne_3 (X_w10_ListingOne_3.mk x.fst x.snd))))))))))))
theorem sd_w10_ListingOne (x : X_w10_ListingOne) : (tt_w10_ListingOne x).Sides :=
  (TT.s_call fun _ => (TT.s_ite (TT.s_call fun _ => TT.s_ret) (TT.s_call fun _ => (TT.s_ite (TT.s_call fun _ => TT.s_ret) (TT.s_call fun _ => (TT.s_ite (TT.s_call fun _ => TT.s_ret) (TT.s_call fun _ => (TT.s_ite (TT.s_call fun _ => TT.s_ret) (TT.s_call fun _ => (TT.s_ite (TT.s_call fun _ => TT.s_ret) TT.s_jump))))))))))

noncomputable def D_w10_ListingOne : Dyn X_w10_ListingOne R_w10_ListingOne := .of tt_w10_ListingOne
noncomputable def con_w10_ListingOne : Con Tryz.prog :=
  mkCon 6 J_w10_ListingOne S_w10_ListingOne D_w10_ListingOne D_w10_ListingOne (fun _ _ h => h) 2 0 [sh_TApi_Program, sh_TApi_Program] (by kernel_rfl) (by kernel_rfl) (by kernel_rfl) (lab_ok mixed_ok (labs_cons2 ok_w10_ListingOne_3 rfl labs_nil) 4000 (fun x => by kernel_rfl) sd_w10_ListingOne) rfl rfl (fun _ => rfl) (by kernel_rfl) rfl (fun _ => rfl) (fun x y _ => by kernel_rfl)
end Go.Proofs.YtigdgbdmlejcbaaGreatDoor
