/- What functions of the program come to, part C: no statement is proved here. -/
import Derived.Test.YtiplcdhnjennfaaGreatGB
namespace Go.Proofs.YtiplcdhnjennfaaGreat
open Go Go.Vm Go.Proofs
set_option maxRecDepth 100000
abbrev X_f1 : Type := TPg × (Sl TEv) × (Sl TEv)
abbrev R_f1 : Type := Bool
noncomputable def J_f1 : Job Tryz.prog :=
  job Tryz.prog Tryz.f9 105 [(3, 3), (32, 1), (39, 1), (64, 1), (77, 1), (100, 1), (102, 1)] [(4, [.open_ 7]), (18, [.open_ 12])] [] [] [.any] [] [con_fc, con_f1f, con_fe, con_f3, con_f6, con_f12, con_fh, con_f26, con_f25, con_f2y, con_f3c] R_f1 [] fun y => [V.bool y]
noncomputable def S_f1 : LabS :=
  lab0 Tryz.f9 3 0 X_f1 (fun x => [e_TPg x.1, esl_TEv x.2.1, esl_TEv x.2.2]) fun l => (d_TPg (at_ l 0), dsl_TEv (at_ l 1), dsl_TEv (at_ l 2))
structure X_f1_3 where
  l_1 : (Sl TEv)
  more_2 : (Sl TEv)
  p_3 : TPg
noncomputable def S_f1_3 : LabS :=
  labAt Tryz.f9 3 [(1, hsl_TEv), (2, hsl_TEv), (3, .any)] [] [] X_f1_3 (fun x => [esl_TEv x.l_1, esl_TEv x.more_2, (eVp e_TPg) x.p_3]) fun l => ⟨dsl_TEv (at_ l 0), dsl_TEv (at_ l 1), (dVp d_TPg) (at_ l 2)⟩
structure X_f1_7 where
  more_2 : (Sl TEv)
  p_3 : TPg
  q_39 : (Sl TEv)
  q_40 : Int
  q_41 : Int
  n_7 : TFa
noncomputable def S_f1_7 : LabS :=
  labAt Tryz.f9 7 [(2, hsl_TEv), (3, .any), (7, .any), (39, hsl_TEv), (40, .any), (41, .any)] [] [(.loc 7 1, sh_TFa)] X_f1_7 (fun x => [esl_TEv x.more_2, (eVp e_TPg) x.p_3, (V.ptr (.loc 7 1) []), esl_TEv x.q_39, (V.int .i64) x.q_40, (V.int .i64) x.q_41, e_TFa x.n_7]) fun l => ⟨dsl_TEv (at_ l 0), (dVp d_TPg) (at_ l 1), dsl_TEv (at_ l 3), dI (at_ l 4), dI (at_ l 5), d_TFa (at_ l 6)⟩
structure X_f1_11 where
  more_2 : (Sl TEv)
  p_3 : TPg
  n_7 : TFa
noncomputable def S_f1_11 : LabS :=
  labAt Tryz.f9 11 [(2, hsl_TEv), (3, .any), (7, .any)] [] [(.loc 7 1, sh_TFa)] X_f1_11 (fun x => [esl_TEv x.more_2, (eVp e_TPg) x.p_3, (V.ptr (.loc 7 1) []), e_TFa x.n_7]) fun l => ⟨dsl_TEv (at_ l 0), (dVp d_TPg) (at_ l 1), d_TFa (at_ l 3)⟩
structure X_f1_12 where
  more_2 : (Sl TEv)
  p_3 : TPg
  q_51 : Int
  q_52 : Int
  n_7 : TFa
noncomputable def S_f1_12 : LabS :=
  labAt Tryz.f9 12 [(2, hsl_TEv), (3, .any), (7, .any), (51, .any), (52, .any)] [] [(.loc 7 1, sh_TFa)] X_f1_12 (fun x => [esl_TEv x.more_2, (eVp e_TPg) x.p_3, (V.ptr (.loc 7 1) []), (V.int .i64) x.q_51, (V.int .i64) x.q_52, e_TFa x.n_7]) fun l => ⟨dsl_TEv (at_ l 0), (dVp d_TPg) (at_ l 1), dI (at_ l 3), dI (at_ l 4), d_TFa (at_ l 5)⟩
structure X_f1_17 where
  more_2 : (Sl TEv)
  p_3 : TPg
  n_7 : TFa
noncomputable def S_f1_17 : LabS :=
  labAt Tryz.f9 17 [(2, hsl_TEv), (3, .any), (7, .any)] [] [(.loc 7 1, sh_TFa)] X_f1_17 (fun x => [esl_TEv x.more_2, (eVp e_TPg) x.p_3, (V.ptr (.loc 7 1) []), e_TFa x.n_7]) fun l => ⟨dsl_TEv (at_ l 0), (dVp d_TPg) (at_ l 1), d_TFa (at_ l 3)⟩
structure X_f1_20 where
  more_2 : (Sl TEv)
  n_7 : TFa
  n_12 : TFa
noncomputable def S_f1_20 : LabS :=
  labAt Tryz.f9 20 [(2, hsl_TEv), (7, .any), (12, .any)] [] [(.loc 7 1, sh_TFa), (.loc 12 1, sh_TFa)] X_f1_20 (fun x => [esl_TEv x.more_2, (V.ptr (.loc 7 1) []), (V.ptr (.loc 12 1) []), e_TFa x.n_7, e_TFa x.n_12]) fun l => ⟨dsl_TEv (at_ l 0), d_TFa (at_ l 3), d_TFa (at_ l 4)⟩
structure X_f1_21 where
  q_77 : (Sl TEv)
  q_78 : Int
  q_79 : Int
  n_7 : TFa
  n_12 : TFa
noncomputable def S_f1_21 : LabS :=
  labAt Tryz.f9 21 [(7, .any), (12, .any), (77, hsl_TEv), (78, .any), (79, .any)] [] [(.loc 7 1, sh_TFa), (.loc 12 1, sh_TFa)] X_f1_21 (fun x => [(V.ptr (.loc 7 1) []), (V.ptr (.loc 12 1) []), esl_TEv x.q_77, (V.int .i64) x.q_78, (V.int .i64) x.q_79, e_TFa x.n_7, e_TFa x.n_12]) fun l => ⟨dsl_TEv (at_ l 2), dI (at_ l 3), dI (at_ l 4), d_TFa (at_ l 5), d_TFa (at_ l 6)⟩
structure X_f1_25 where
  q_77 : (Sl TEv)
  q_78 : Int
  q_79 : Int
  n_7 : TFa
  n_12 : TFa
noncomputable def S_f1_25 : LabS :=
  labAt Tryz.f9 25 [(7, .any), (12, .any), (77, hsl_TEv), (78, .any), (79, .any)] [] [(.loc 7 1, sh_TFa), (.loc 12 1, sh_TFa)] X_f1_25 (fun x => [(V.ptr (.loc 7 1) []), (V.ptr (.loc 12 1) []), esl_TEv x.q_77, (V.int .i64) x.q_78, (V.int .i64) x.q_79, e_TFa x.n_7, e_TFa x.n_12]) fun l => ⟨dsl_TEv (at_ l 2), dI (at_ l 3), dI (at_ l 4), d_TFa (at_ l 5), d_TFa (at_ l 6)⟩
structure X_f1_26 where
  n_7 : TFa
  n_12 : TFa
noncomputable def S_f1_26 : LabS :=
  labAt Tryz.f9 26 [(7, .any), (12, .any)] [] [(.loc 7 1, sh_TFa), (.loc 12 1, sh_TFa)] X_f1_26 (fun x => [(V.ptr (.loc 7 1) []), (V.ptr (.loc 12 1) []), e_TFa x.n_7, e_TFa x.n_12]) fun l => ⟨d_TFa (at_ l 2), d_TFa (at_ l 3)⟩
noncomputable def tt_f1_26 (x : X_f1_26) : TT Tryz.prog R_f1 :=
 (.call con_f3 x.n_7 fun (y1 : R_f3) =>
 (.call con_f3 x.n_12 fun (y2 : R_f3) =>
 (.call con_fh (y1, y2) fun (y3 : R_fh) =>
 (.ret y3))))
theorem sd_f1_26 (x : X_f1_26) : (tt_f1_26 x).Sides :=
  (TT.sC fun _ => (TT.sC fun _ => (TT.sC fun _ => TT.sR)))
noncomputable def D_f1_26 : Dyn X_f1_26 R_f1 := .of tt_f1_26
theorem ok_f1_26 : LabOK J_f1 S_f1_26 D_f1_26 :=
  lbk mxk lbn 4000 (fun x => by kernel_rfl) sd_f1_26
noncomputable def tt_f1_25 (D_f1_21 : Dyn X_f1_21 R_f1) (x : X_f1_25) : TT Tryz.prog R_f1 :=
 (.jump S_f1_21 D_f1_21 (X_f1_21.mk x.q_77 x.q_78 (IntKind.i64.wrap (x.q_79 + 1)) x.n_7 x.n_12))
theorem sd_f1_25 (D_f1_21 : Dyn X_f1_21 R_f1) (x : X_f1_25) : (tt_f1_25 D_f1_21 x).Sides :=
  TT.sJ
noncomputable def D_f1_25 (D_f1_21 : Dyn X_f1_21 R_f1) : Dyn X_f1_25 R_f1 := .of (tt_f1_25 D_f1_21)
theorem ok_f1_25 (D_f1_21 : Dyn X_f1_21 R_f1) (h_21 : LabOK J_f1 S_f1_21 D_f1_21) : LabOK J_f1 S_f1_25 (D_f1_25 D_f1_21) :=
  lbk mxk (lbc h_21 rfl (lbc ok_f1_26 rfl lbn)) 4000 (fun x => by kernel_rfl) (sd_f1_25 D_f1_21)
noncomputable def tt_f1_21 (D_f1_21 : Dyn X_f1_21 R_f1) (x : X_f1_21) : TT Tryz.prog R_f1 :=
 (.ite (ilt x.q_79 x.q_78)
 (.need (inb x.q_79 x.q_77.n) <|
 (.call con_fc ((x.q_77.get (Int.toNat x.q_79)), x.n_7) fun (y2 : R_fc) =>
 (.call con_fc ((x.q_77.get (Int.toNat x.q_79)), x.n_12) fun (y3 : R_fc) =>
 (.ite (!(y2 == y3))
 (.ret false)
 (.call con_f1f ((x.q_77.get (Int.toNat x.q_79)), x.n_7) fun (y4 : R_f1f) =>
 (.call con_f1f ((x.q_77.get (Int.toNat x.q_79)), x.n_12) fun (y5 : R_f1f) =>
 (.ite (!(ieq y4.fst y5.fst))
 (.ret false)
 (.jump S_f1_25 (D_f1_25 D_f1_21) (X_f1_25.mk x.q_77 x.q_78 x.q_79 y4.snd y5.snd)))))))))
 (.jump S_f1_26 D_f1_26 (X_f1_26.mk x.n_7 x.n_12)))
theorem sd_f1_21 (D_f1_21 : Dyn X_f1_21 R_f1) (x : X_f1_21) : (tt_f1_21 D_f1_21 x).Sides :=
  (TT.sI (TT.sN (TT.sC fun _ => (TT.sC fun _ => (TT.sI TT.sR (TT.sC fun _ => (TT.sC fun _ => (TT.sI TT.sR TT.sJ))))))) TT.sJ)
noncomputable def D_f1_21 : Dyn X_f1_21 R_f1 := Dyn.loop tt_f1_21
theorem ok_f1_21 : LabOK J_f1 S_f1_21 D_f1_21 :=
  loop_ok fun D_f1_21 h_21 => lbk mxk (lbc h_21 rfl (lbc ok_f1_26 rfl (lbc (ok_f1_25 D_f1_21 h_21) rfl lbn))) 4000 (fun x => by kernel_rfl) (sd_f1_21 D_f1_21)
noncomputable def tt_f1_20 (x : X_f1_20) : TT Tryz.prog R_f1 :=
 (.jump S_f1_21 D_f1_21 (X_f1_21.mk x.more_2 ((x.more_2.n : Nat) : Int) 0 x.n_7 x.n_12))
theorem sd_f1_20 (x : X_f1_20) : (tt_f1_20 x).Sides :=
  TT.sJ
noncomputable def D_f1_20 : Dyn X_f1_20 R_f1 := .of tt_f1_20
theorem ok_f1_20 : LabOK J_f1 S_f1_20 D_f1_20 :=
  lbk mxk (lbc ok_f1_26 rfl (lbc ok_f1_21 rfl lbn)) 4000 (fun x => by kernel_rfl) sd_f1_20
noncomputable def tt_f1_17 (x : X_f1_17) : TT Tryz.prog R_f1 :=
 (.call con_f3 x.n_7 fun (y1 : R_f3) =>
 (.call con_f6 (x.p_3, y1) fun (y2 : R_f6) =>
 (.need (!y2.fst.nil) <|
 (.ite (!(ieq y2.snd 0))
 (.ret false)
 (.jump S_f1_20 D_f1_20 (X_f1_20.mk x.more_2 x.n_7 y2.fst.x))))))
theorem sd_f1_17 (x : X_f1_17) : (tt_f1_17 x).Sides :=
  (TT.sC fun _ => (TT.sC fun _ => (TT.sN (TT.sI TT.sR TT.sJ))))
noncomputable def D_f1_17 : Dyn X_f1_17 R_f1 := .of tt_f1_17
theorem ok_f1_17 : LabOK J_f1 S_f1_17 D_f1_17 :=
  lbk mxk (lbc ok_f1_26 rfl (lbc ok_f1_21 rfl (lbc ok_f1_20 rfl lbn))) 4000 (fun x => by kernel_rfl) sd_f1_17
noncomputable def tt_f1_12 (D_f1_12 : Dyn X_f1_12 R_f1) (x : X_f1_12) : TT Tryz.prog R_f1 :=
 (.ite (ilt x.q_52 x.q_51)
 (.call con_fe (x.q_52, x.n_7) fun (y2 : R_fe) =>
 (.call con_f25 y2 fun (_y3 : R_f25) =>
 (.call con_fe (x.q_52, x.n_7) fun (y4 : R_fe) =>
 (.call con_f26 y4 fun (_y5 : R_f26) =>
 (.jump S_f1_12 D_f1_12 (X_f1_12.mk x.more_2 x.p_3 x.q_51 (IntKind.i64.wrap (x.q_52 + 1)) x.n_7))))))
 (.jump S_f1_17 D_f1_17 (X_f1_17.mk x.more_2 x.p_3 x.n_7)))
theorem sd_f1_12 (D_f1_12 : Dyn X_f1_12 R_f1) (x : X_f1_12) : (tt_f1_12 D_f1_12 x).Sides :=
  (TT.sI (TT.sC fun _ => (TT.sC fun _ => (TT.sC fun _ => (TT.sC fun _ => TT.sJ)))) TT.sJ)
noncomputable def D_f1_12 : Dyn X_f1_12 R_f1 := Dyn.loop tt_f1_12
theorem ok_f1_12 : LabOK J_f1 S_f1_12 D_f1_12 :=
  loop_ok fun D_f1_12 h_12 => lbk mxk (lbc h_12 rfl (lbc ok_f1_26 rfl (lbc ok_f1_21 rfl (lbc ok_f1_20 rfl (lbc ok_f1_17 rfl lbn))))) 4000 (fun x => by kernel_rfl) (sd_f1_12 D_f1_12)
noncomputable def tt_f1_11 (x : X_f1_11) : TT Tryz.prog R_f1 :=
 (.jump S_f1_12 D_f1_12 (X_f1_12.mk x.more_2 x.p_3 ((x.p_3.Rings.n : Nat) : Int) 0 x.n_7))
theorem sd_f1_11 (x : X_f1_11) : (tt_f1_11 x).Sides :=
  TT.sJ
noncomputable def D_f1_11 : Dyn X_f1_11 R_f1 := .of tt_f1_11
theorem ok_f1_11 : LabOK J_f1 S_f1_11 D_f1_11 :=
  lbk mxk (lbc ok_f1_26 rfl (lbc ok_f1_21 rfl (lbc ok_f1_20 rfl (lbc ok_f1_17 rfl (lbc ok_f1_12 rfl lbn))))) 4000 (fun x => by kernel_rfl) sd_f1_11
noncomputable def tt_f1_7 (D_f1_7 : Dyn X_f1_7 R_f1) (x : X_f1_7) : TT Tryz.prog R_f1 :=
 (.ite (ilt x.q_41 x.q_40)
 (.need (inb x.q_41 x.q_39.n) <|
 (.call con_f1f ((x.q_39.get (Int.toNat x.q_41)), x.n_7) fun (y2 : R_f1f) =>
 (.jump S_f1_7 D_f1_7 (X_f1_7.mk x.more_2 x.p_3 x.q_39 x.q_40 (IntKind.i64.wrap (x.q_41 + 1)) y2.snd))))
 (.jump S_f1_11 D_f1_11 (X_f1_11.mk x.more_2 x.p_3 x.n_7)))
theorem sd_f1_7 (D_f1_7 : Dyn X_f1_7 R_f1) (x : X_f1_7) : (tt_f1_7 D_f1_7 x).Sides :=
  (TT.sI (TT.sN (TT.sC fun _ => TT.sJ)) TT.sJ)
noncomputable def D_f1_7 : Dyn X_f1_7 R_f1 := Dyn.loop tt_f1_7
theorem ok_f1_7 : LabOK J_f1 S_f1_7 D_f1_7 :=
  loop_ok fun D_f1_7 h_7 => lbk mxk (lbc h_7 rfl (lbc ok_f1_26 rfl (lbc ok_f1_21 rfl (lbc ok_f1_20 rfl (lbc ok_f1_17 rfl (lbc ok_f1_12 rfl (lbc ok_f1_11 rfl lbn))))))) 4000 (fun x => by kernel_rfl) (sd_f1_7 D_f1_7)
noncomputable def tt_f1_3 (x : X_f1_3) : TT Tryz.prog R_f1 :=
 (.call con_f12 x.p_3 fun (y1 : R_f12) =>
 (.need (!y1.fst.nil) <|
 (.jump S_f1_7 D_f1_7 (X_f1_7.mk x.more_2 x.p_3 x.l_1 ((x.l_1.n : Nat) : Int) 0 y1.fst.x))))
theorem sd_f1_3 (x : X_f1_3) : (tt_f1_3 x).Sides :=
  (TT.sC fun _ => (TT.sN TT.sJ))
noncomputable def D_f1_3 : Dyn X_f1_3 R_f1 := .of tt_f1_3
theorem ok_f1_3 : LabOK J_f1 S_f1_3 D_f1_3 :=
  lbk mxk (lbc ok_f1_26 rfl (lbc ok_f1_21 rfl (lbc ok_f1_20 rfl (lbc ok_f1_17 rfl (lbc ok_f1_12 rfl (lbc ok_f1_11 rfl (lbc ok_f1_7 rfl lbn))))))) 4000 (fun x => by kernel_rfl) sd_f1_3
noncomputable def tt_f1 (x : X_f1) : TT Tryz.prog R_f1 :=
 (.call con_f2y PUnit.unit fun (y1 : R_f2y) =>
 (.ite (!y1)
 (.call con_f2y PUnit.unit fun (y2 : R_f2y) =>
 (.ret y2))
 (.call con_f3c x.fst fun (y2 : R_f3c) =>
 (.ite (!y2)
 (.call con_f2y PUnit.unit fun (y3 : R_f2y) =>
 (.ret y3))
 (.ite (ilt 80 (IntKind.i64.wrap (((x.snd.fst.n : Nat) : Int) + ((x.snd.snd.n : Nat) : Int))))
 (.call con_f2y PUnit.unit fun (y3 : R_f2y) =>
 (.ret y3))
 (.jump S_f1_3 D_f1_3 (X_f1_3.mk x.snd.fst x.snd.snd x.fst)))))))
theorem sd_f1 (x : X_f1) : (tt_f1 x).Sides :=
  (TT.sC fun _ => (TT.sI (TT.sC fun _ => TT.sR) (TT.sC fun _ => (TT.sI (TT.sC fun _ => TT.sR) (TT.sI (TT.sC fun _ => TT.sR) TT.sJ)))))
noncomputable def D_f1 : Dyn X_f1 R_f1 := .of tt_f1
noncomputable def con_f1 : Con Tryz.prog :=
  mkCon 9 J_f1 S_f1 D_f1 D_f1 (fun _ _ h => h) 3 0 [sh_TPg, hsl_TEv, hsl_TEv] (by kernel_rfl) (by kernel_rfl) (by kernel_rfl) (lbk mxk (lbc ok_f1_26 rfl (lbc ok_f1_21 rfl (lbc ok_f1_20 rfl (lbc ok_f1_17 rfl (lbc ok_f1_12 rfl (lbc ok_f1_11 rfl (lbc ok_f1_7 rfl (lbc ok_f1_3 rfl lbn)))))))) 4000 (fun x => by kernel_rfl) sd_f1) rfl rfl (fun _ => rfl) (by kernel_rfl) rfl (fun _ => rfl) (fun x y _ => by kernel_rfl)
end Go.Proofs.YtiplcdhnjennfaaGreat
