/- What functions of the program come to, part C: no statement is proved here. -/
import Derived.Test.YtiplcdhnjennfaaGreatGB
namespace Go.Proofs.YtiplcdhnjennfaaGreat
open Go Go.Vm Go.Proofs
set_option maxRecDepth 100000
abbrev X_f3m : Type := (Sl TIn) × TTh
abbrev R_f3m : Type := TTh
noncomputable def J_f3m : Job Tryz.prog :=
  job Tryz.prog Tryz.f161 100 [(8, 1), (78, 1)] [] [] [] [sh_TTh] [] [con_ft] R_f3m [] fun y => [e_TTh y]
noncomputable def S_f3m : LabS :=
  lab0 Tryz.f161 2 0 X_f3m (fun x => [esl_TIn x.1, e_TTh x.2]) fun l => (dsl_TIn (at_ l 0), d_TTh (at_ l 1))
noncomputable def tt_f3m (x : X_f3m) : TT Tryz.prog R_f3m :=
 (.need (inb x.snd.At x.fst.n) <|
 (.ite (ieq (x.fst.get (Int.toNat x.snd.At)).Op 1)
 (.need (inb (x.fst.get (Int.toNat x.snd.At)).A 8) <|
 (.ret (TTh.mk (IntKind.i64.wrap (x.snd.At + 1)) x.snd.Phase x.snd.Ring x.snd.Status x.snd.Ticket (fun i1 => (cond (Nat.beq i1 (Int.toNat (x.fst.get (Int.toNat x.snd.At)).A)) (x.fst.get (Int.toNat x.snd.At)).K (x.snd.Regs i1))) x.snd.Seen)))
 (.ite (ieq (x.fst.get (Int.toNat x.snd.At)).Op 2)
 (.need (inb (x.fst.get (Int.toNat x.snd.At)).B 8) <|
 (.need (inb (x.fst.get (Int.toNat x.snd.At)).A 8) <|
 (.ret (TTh.mk (IntKind.i64.wrap (x.snd.At + 1)) x.snd.Phase x.snd.Ring x.snd.Status x.snd.Ticket (fun i1 => (cond (Nat.beq i1 (Int.toNat (x.fst.get (Int.toNat x.snd.At)).A)) (x.snd.Regs (Int.toNat (x.fst.get (Int.toNat x.snd.At)).B)) (x.snd.Regs i1))) x.snd.Seen))))
 (.ite (ieq (x.fst.get (Int.toNat x.snd.At)).Op 15)
 (.ret (TTh.mk (IntKind.i64.wrap (x.fst.get (Int.toNat x.snd.At)).K) x.snd.Phase x.snd.Ring x.snd.Status x.snd.Ticket x.snd.Regs x.snd.Seen))
 (.ite (ieq (x.fst.get (Int.toNat x.snd.At)).Op 16)
 (.need (inb (x.fst.get (Int.toNat x.snd.At)).A 8) <|
 (.ite (ieq (x.snd.Regs (Int.toNat (x.fst.get (Int.toNat x.snd.At)).A)) 0)
 (.ret (TTh.mk (IntKind.i64.wrap (x.fst.get (Int.toNat x.snd.At)).K) x.snd.Phase x.snd.Ring x.snd.Status x.snd.Ticket x.snd.Regs x.snd.Seen))
 (.ite (ieq (x.fst.get (Int.toNat x.snd.At)).Op 17)
 (.need (inb (x.fst.get (Int.toNat x.snd.At)).A 8) <|
 (.ite (!(ieq (x.snd.Regs (Int.toNat (x.fst.get (Int.toNat x.snd.At)).A)) 0))
 (.ret (TTh.mk (IntKind.i64.wrap (x.fst.get (Int.toNat x.snd.At)).K) x.snd.Phase x.snd.Ring x.snd.Status x.snd.Ticket x.snd.Regs x.snd.Seen))
 (.ite (ilt (x.fst.get (Int.toNat x.snd.At)).Op 15)
 (.need (inb (x.fst.get (Int.toNat x.snd.At)).B 8) <|
 (.need (inb (x.fst.get (Int.toNat x.snd.At)).C 8) <|
 (.call con_ft ((x.fst.get (Int.toNat x.snd.At)).Op, ((x.snd.Regs (Int.toNat (x.fst.get (Int.toNat x.snd.At)).B)), (x.snd.Regs (Int.toNat (x.fst.get (Int.toNat x.snd.At)).C)))) fun (y1 : R_ft) =>
 (.need (inb (x.fst.get (Int.toNat x.snd.At)).A 8) <|
 (.ret (TTh.mk (IntKind.i64.wrap (x.snd.At + 1)) x.snd.Phase x.snd.Ring x.snd.Status x.snd.Ticket (fun i2 => (cond (Nat.beq i2 (Int.toNat (x.fst.get (Int.toNat x.snd.At)).A)) y1.fst (x.snd.Regs i2))) x.snd.Seen))))))
 (.ret (TTh.mk (IntKind.i64.wrap (x.snd.At + 1)) x.snd.Phase x.snd.Ring x.snd.Status x.snd.Ticket x.snd.Regs x.snd.Seen)))))
 (.ite (ilt (x.fst.get (Int.toNat x.snd.At)).Op 15)
 (.need (inb (x.fst.get (Int.toNat x.snd.At)).B 8) <|
 (.need (inb (x.fst.get (Int.toNat x.snd.At)).C 8) <|
 (.call con_ft ((x.fst.get (Int.toNat x.snd.At)).Op, ((x.snd.Regs (Int.toNat (x.fst.get (Int.toNat x.snd.At)).B)), (x.snd.Regs (Int.toNat (x.fst.get (Int.toNat x.snd.At)).C)))) fun (y1 : R_ft) =>
 (.need (inb (x.fst.get (Int.toNat x.snd.At)).A 8) <|
 (.ret (TTh.mk (IntKind.i64.wrap (x.snd.At + 1)) x.snd.Phase x.snd.Ring x.snd.Status x.snd.Ticket (fun i2 => (cond (Nat.beq i2 (Int.toNat (x.fst.get (Int.toNat x.snd.At)).A)) y1.fst (x.snd.Regs i2))) x.snd.Seen))))))
 (.ret (TTh.mk (IntKind.i64.wrap (x.snd.At + 1)) x.snd.Phase x.snd.Ring x.snd.Status x.snd.Ticket x.snd.Regs x.snd.Seen))))))
 (.ite (ieq (x.fst.get (Int.toNat x.snd.At)).Op 17)
 (.need (inb (x.fst.get (Int.toNat x.snd.At)).A 8) <|
 (.ite (!(ieq (x.snd.Regs (Int.toNat (x.fst.get (Int.toNat x.snd.At)).A)) 0))
 (.ret (TTh.mk (IntKind.i64.wrap (x.fst.get (Int.toNat x.snd.At)).K) x.snd.Phase x.snd.Ring x.snd.Status x.snd.Ticket x.snd.Regs x.snd.Seen))
 (.ite (ilt (x.fst.get (Int.toNat x.snd.At)).Op 15)
 (.need (inb (x.fst.get (Int.toNat x.snd.At)).B 8) <|
 (.need (inb (x.fst.get (Int.toNat x.snd.At)).C 8) <|
 (.call con_ft ((x.fst.get (Int.toNat x.snd.At)).Op, ((x.snd.Regs (Int.toNat (x.fst.get (Int.toNat x.snd.At)).B)), (x.snd.Regs (Int.toNat (x.fst.get (Int.toNat x.snd.At)).C)))) fun (y1 : R_ft) =>
 (.need (inb (x.fst.get (Int.toNat x.snd.At)).A 8) <|
 (.ret (TTh.mk (IntKind.i64.wrap (x.snd.At + 1)) x.snd.Phase x.snd.Ring x.snd.Status x.snd.Ticket (fun i2 => (cond (Nat.beq i2 (Int.toNat (x.fst.get (Int.toNat x.snd.At)).A)) y1.fst (x.snd.Regs i2))) x.snd.Seen))))))
 (.ret (TTh.mk (IntKind.i64.wrap (x.snd.At + 1)) x.snd.Phase x.snd.Ring x.snd.Status x.snd.Ticket x.snd.Regs x.snd.Seen)))))
 (.ite (ilt (x.fst.get (Int.toNat x.snd.At)).Op 15)
 (.need (inb (x.fst.get (Int.toNat x.snd.At)).B 8) <|
 (.need (inb (x.fst.get (Int.toNat x.snd.At)).C 8) <|
 (.call con_ft ((x.fst.get (Int.toNat x.snd.At)).Op, ((x.snd.Regs (Int.toNat (x.fst.get (Int.toNat x.snd.At)).B)), (x.snd.Regs (Int.toNat (x.fst.get (Int.toNat x.snd.At)).C)))) fun (y1 : R_ft) =>
 (.need (inb (x.fst.get (Int.toNat x.snd.At)).A 8) <|
 (.ret (TTh.mk (IntKind.i64.wrap (x.snd.At + 1)) x.snd.Phase x.snd.Ring x.snd.Status x.snd.Ticket (fun i2 => (cond (Nat.beq i2 (Int.toNat (x.fst.get (Int.toNat x.snd.At)).A)) y1.fst (x.snd.Regs i2))) x.snd.Seen))))))
 (.ret (TTh.mk (IntKind.i64.wrap (x.snd.At + 1)) x.snd.Phase x.snd.Ring x.snd.Status x.snd.Ticket x.snd.Regs x.snd.Seen)))))))))
theorem sd_f3m (x : X_f3m) : (tt_f3m x).Sides :=
  (TT.sN (TT.sI (TT.sN TT.sR) (TT.sI (TT.sN (TT.sN TT.sR)) (TT.sI TT.sR (TT.sI (TT.sN (TT.sI TT.sR (TT.sI (TT.sN (TT.sI TT.sR (TT.sI (TT.sN (TT.sN (TT.sC fun _ => (TT.sN TT.sR)))) TT.sR))) (TT.sI (TT.sN (TT.sN (TT.sC fun _ => (TT.sN TT.sR)))) TT.sR)))) (TT.sI (TT.sN (TT.sI TT.sR (TT.sI (TT.sN (TT.sN (TT.sC fun _ => (TT.sN TT.sR)))) TT.sR))) (TT.sI (TT.sN (TT.sN (TT.sC fun _ => (TT.sN TT.sR)))) TT.sR)))))))
noncomputable def D_f3m : Dyn X_f3m R_f3m := .of tt_f3m
noncomputable def con_f3m : Con Tryz.prog :=
  mkCon 161 J_f3m S_f3m D_f3m D_f3m (fun _ _ h => h) 2 0 [hsl_TIn, sh_TTh] (by kernel_rfl) (by kernel_rfl) (by kernel_rfl) (lbk mxk lbn 4000 (fun x => by kernel_rfl) sd_f3m) rfl rfl (fun _ => rfl) (by kernel_rfl) rfl (fun _ => rfl) (fun x y _ => by kernel_rfl)
structure TA6 where
  Kind : Int
  Ring : Int
  Mode : Int
  Reader : Int
  Ticket : Int
  Value : Int
def d_TA6 (v : V) : TA6 :=
  ⟨dI (fd v 0), dI (fd v 1), dI (fd v 2), dI (fd v 3), dI (fd v 4), dI (fd v 5)⟩
def e_TA6 (x : TA6) : V :=
  V.cons ((V.int .i64) x.Kind) (V.cons ((V.int .i64) x.Ring) (V.cons ((V.int .i64) x.Mode) (V.cons ((V.int .i64) x.Reader) (V.cons ((V.int .u64) x.Ticket) (V.cons ((V.int .u64) x.Value) (V.unit))))))
theorem nu_e_TA6 (x : TA6) : (e_TA6 x).NoU := ⟨trivial, trivial, trivial, trivial, trivial, trivial, trivial⟩
abbrev X_fl : Type := (Sl TIn) × TTh
abbrev R_fl : Type := TTh × TA6
noncomputable def J_fl : Job Tryz.prog :=
  job Tryz.prog Tryz.f117 138 [(21, 1), (39, 1), (77, 1)] [] [] [] [sh_TTh, .any] [] [con_f3m] R_fl [] fun y => [V.tup (V.cons (e_TTh y.1) (V.cons (e_TA6 y.2) (V.unit)))]
noncomputable def S_fl : LabS :=
  lab0 Tryz.f117 2 0 X_fl (fun x => [esl_TIn x.1, e_TTh x.2]) fun l => (dsl_TIn (at_ l 0), d_TTh (at_ l 1))
structure X_fl_8 where
  l_0 : (Sl TIn)
  n_6 : Int
  m_3 : TTh
  m_4 : TTh
  m_5 : TA6
noncomputable def S_fl_8 : LabS :=
  labAt Tryz.f117 8 [(0, hsl_TIn), (3, .any), (4, .any), (5, .any), (6, .any)] [] [(.loc 3 0, sh_TTh), (.loc 4 0, sh_TTh), (.loc 5 0, .any)] X_fl_8 (fun x => [esl_TIn x.l_0, (V.ptr (.loc 3 0) []), (V.ptr (.loc 4 0) []), (V.ptr (.loc 5 0) []), (V.int .i64) x.n_6, e_TTh x.m_3, e_TTh x.m_4, e_TA6 x.m_5]) fun l => ⟨dsl_TIn (at_ l 0), dI (at_ l 4), d_TTh (at_ l 5), d_TTh (at_ l 6), d_TA6 (at_ l 7)⟩
structure X_fl_10 where
  l_0 : (Sl TIn)
  n_6 : Int
  m_3 : TTh
  m_4 : TTh
  m_5 : TA6
noncomputable def S_fl_10 : LabS :=
  labAt Tryz.f117 10 [(0, hsl_TIn), (3, .any), (4, .any), (5, .any), (6, .any)] [] [(.loc 3 0, sh_TTh), (.loc 4 0, sh_TTh), (.loc 5 0, .any)] X_fl_10 (fun x => [esl_TIn x.l_0, (V.ptr (.loc 3 0) []), (V.ptr (.loc 4 0) []), (V.ptr (.loc 5 0) []), (V.int .i64) x.n_6, e_TTh x.m_3, e_TTh x.m_4, e_TA6 x.m_5]) fun l => ⟨dsl_TIn (at_ l 0), dI (at_ l 4), d_TTh (at_ l 5), d_TTh (at_ l 6), d_TA6 (at_ l 7)⟩
structure X_fl_11 where
  l_0 : (Sl TIn)
  m_3 : TTh
  m_4 : TTh
  m_5 : TA6
noncomputable def S_fl_11 : LabS :=
  labAt Tryz.f117 11 [(0, hsl_TIn), (3, .any), (4, .any), (5, .any)] [] [(.loc 3 0, sh_TTh), (.loc 4 0, sh_TTh), (.loc 5 0, .any)] X_fl_11 (fun x => [esl_TIn x.l_0, (V.ptr (.loc 3 0) []), (V.ptr (.loc 4 0) []), (V.ptr (.loc 5 0) []), e_TTh x.m_3, e_TTh x.m_4, e_TA6 x.m_5]) fun l => ⟨dsl_TIn (at_ l 0), d_TTh (at_ l 4), d_TTh (at_ l 5), d_TA6 (at_ l 6)⟩
noncomputable def tt_fl_11 (x : X_fl_11) : TT Tryz.prog R_fl :=
 (.ite (ieq x.m_3.At ((x.l_0.n : Nat) : Int))
 (.ret (x.m_3, (TA6.mk 8 0 0 0 0 0)))
 (.need (inb x.m_3.At x.l_0.n) <|
 (.ite (ieq (x.l_0.get (Int.toNat x.m_3.At)).Op 18)
 (.need (inb (x.l_0.get (Int.toNat x.m_3.At)).A 8) <|
 (.ret (x.m_3, (TA6.mk 1 (x.l_0.get (Int.toNat x.m_3.At)).C (x.l_0.get (Int.toNat x.m_3.At)).D 0 0 (x.m_3.Regs (Int.toNat (x.l_0.get (Int.toNat x.m_3.At)).A))))))
 (.ite (ieq (x.l_0.get (Int.toNat x.m_3.At)).Op 19)
 (.ret (x.m_3, (TA6.mk 2 (x.l_0.get (Int.toNat x.m_3.At)).C (x.l_0.get (Int.toNat x.m_3.At)).D (IntKind.i64.wrap (x.l_0.get (Int.toNat x.m_3.At)).K) 0 0)))
 (.ite (ieq (x.l_0.get (Int.toNat x.m_3.At)).Op 20)
 (.ret (x.m_3, (TA6.mk 3 (x.l_0.get (Int.toNat x.m_3.At)).C 0 0 0 0)))
 (.ite (ieq (x.l_0.get (Int.toNat x.m_3.At)).Op 21)
 (.ret (x.m_3, (TA6.mk (IntKind.i64.wrap ((x.l_0.get (Int.toNat x.m_3.At)).Op - 17)) 0 0 0 0 0)))
 (.ite (ieq (x.l_0.get (Int.toNat x.m_3.At)).Op 22)
 (.ret (x.m_3, (TA6.mk (IntKind.i64.wrap ((x.l_0.get (Int.toNat x.m_3.At)).Op - 17)) 0 0 0 0 0)))
 (.ite (ieq (x.l_0.get (Int.toNat x.m_3.At)).Op 23)
 (.ret (x.m_3, (TA6.mk (IntKind.i64.wrap ((x.l_0.get (Int.toNat x.m_3.At)).Op - 17)) 0 0 0 0 0)))
 (.ite (ieq (x.l_0.get (Int.toNat x.m_3.At)).Op 24)
 (.need (inb (x.l_0.get (Int.toNat x.m_3.At)).A 8) <|
 (.ret (x.m_3, (TA6.mk 7 0 0 0 0 (x.m_3.Regs (Int.toNat (x.l_0.get (Int.toNat x.m_3.At)).A))))))
 (.ite (ieq (x.l_0.get (Int.toNat x.m_3.At)).Op 25)
 (.ret (x.m_3, (TA6.mk 8 0 0 0 0 0)))
 (.ret (x.m_3, (TA6.mk 9 0 0 0 0 0)))))))))))))
theorem sd_fl_11 (x : X_fl_11) : (tt_fl_11 x).Sides :=
  (TT.sI TT.sR (TT.sN (TT.sI (TT.sN TT.sR) (TT.sI TT.sR (TT.sI TT.sR (TT.sI TT.sR (TT.sI TT.sR (TT.sI TT.sR (TT.sI (TT.sN TT.sR) (TT.sI TT.sR TT.sR))))))))))
noncomputable def D_fl_11 : Dyn X_fl_11 R_fl := .of tt_fl_11
theorem ok_fl_11 : LabOK J_fl S_fl_11 D_fl_11 :=
  lbk mxk lbn 4000 (fun x => by kernel_rfl) sd_fl_11
noncomputable def tt_fl_10 (D_fl_8 : Dyn X_fl_8 R_fl) (x : X_fl_10) : TT Tryz.prog R_fl :=
 (.call con_f3m (x.l_0, x.m_3) fun (y2 : R_f3m) =>
 (.jump S_fl_8 D_fl_8 (X_fl_8.mk x.l_0 (IntKind.i64.wrap (x.n_6 + 1)) y2 x.m_4 x.m_5)))
theorem sd_fl_10 (D_fl_8 : Dyn X_fl_8 R_fl) (x : X_fl_10) : (tt_fl_10 D_fl_8 x).Sides :=
  (TT.sC fun _ => TT.sJ)
noncomputable def D_fl_10 (D_fl_8 : Dyn X_fl_8 R_fl) : Dyn X_fl_10 R_fl := .of (tt_fl_10 D_fl_8)
theorem ok_fl_10 (D_fl_8 : Dyn X_fl_8 R_fl) (h_8 : LabOK J_fl S_fl_8 D_fl_8) : LabOK J_fl S_fl_10 (D_fl_10 D_fl_8) :=
  lbk mxk (lbc h_8 rfl (lbc ok_fl_11 rfl lbn)) 4000 (fun x => by kernel_rfl) (sd_fl_10 D_fl_8)
noncomputable def tt_fl_8 (D_fl_8 : Dyn X_fl_8 R_fl) (x : X_fl_8) : TT Tryz.prog R_fl :=
 (.ite (ilt x.n_6 256)
 (.ite (ilt x.m_3.At ((x.l_0.n : Nat) : Int))
 (.need (inb x.m_3.At x.l_0.n) <|
 (.ite (ile (x.l_0.get (Int.toNat x.m_3.At)).Op 17)
 (.jump S_fl_10 (D_fl_10 D_fl_8) (X_fl_10.mk x.l_0 x.n_6 x.m_3 x.m_4 x.m_5))
 (.jump S_fl_11 D_fl_11 (X_fl_11.mk x.l_0 x.m_3 x.m_4 x.m_5))))
 (.jump S_fl_11 D_fl_11 (X_fl_11.mk x.l_0 x.m_3 x.m_4 x.m_5)))
 (.jump S_fl_11 D_fl_11 (X_fl_11.mk x.l_0 x.m_3 x.m_4 x.m_5)))
theorem sd_fl_8 (D_fl_8 : Dyn X_fl_8 R_fl) (x : X_fl_8) : (tt_fl_8 D_fl_8 x).Sides :=
  (TT.sI (TT.sI (TT.sN (TT.sI TT.sJ TT.sJ)) TT.sJ) TT.sJ)
noncomputable def D_fl_8 : Dyn X_fl_8 R_fl := Dyn.loop tt_fl_8
theorem ok_fl_8 : LabOK J_fl S_fl_8 D_fl_8 :=
  loop_ok fun D_fl_8 h_8 => lbk mxk (lbc h_8 rfl (lbc ok_fl_11 rfl (lbc (ok_fl_10 D_fl_8 h_8) rfl lbn))) 4000 (fun x => by kernel_rfl) (sd_fl_8 D_fl_8)
noncomputable def tt_fl (x : X_fl) : TT Tryz.prog R_fl :=
 (.ite (!(ieq x.snd.Status 0))
 (.ret (x.snd, (TA6.mk 0 0 0 0 0 0)))
 (.ite (ieq x.snd.Phase 1)
 (.need (inb x.snd.At x.fst.n) <|
 (.need (inb (x.fst.get (Int.toNat x.snd.At)).A 8) <|
 (.ret (x.snd, (TA6.mk 10 x.snd.Ring 0 0 x.snd.Ticket (x.snd.Regs (Int.toNat (x.fst.get (Int.toNat x.snd.At)).A)))))))
 (.ite (ieq x.snd.Phase 2)
 (.need (inb x.snd.At x.fst.n) <|
 (.ret (x.snd, (TA6.mk 11 x.snd.Ring 0 (IntKind.i64.wrap (x.fst.get (Int.toNat x.snd.At)).K) x.snd.Ticket 0))))
 (.jump S_fl_8 D_fl_8 (X_fl_8.mk x.fst 0 x.snd (TTh.mk 0 0 0 0 0 (fun _i1 => (0 : Int)) (Sl.mk true 0 (fun _i1 => (0 : Int)))) (TA6.mk 0 0 0 0 0 0))))))
theorem sd_fl (x : X_fl) : (tt_fl x).Sides :=
  (TT.sI TT.sR (TT.sI (TT.sN (TT.sN TT.sR)) (TT.sI (TT.sN TT.sR) TT.sJ)))
noncomputable def D_fl : Dyn X_fl R_fl := .of tt_fl
noncomputable def con_fl : Con Tryz.prog :=
  mkCon 117 J_fl S_fl D_fl D_fl (fun _ _ h => h) 2 0 [hsl_TIn, sh_TTh] (by kernel_rfl) (by kernel_rfl) (by kernel_rfl) (lbk mxk (lbc ok_fl_11 rfl (lbc ok_fl_8 rfl lbn)) 4000 (fun x => by kernel_rfl) sd_fl) rfl rfl (fun _ => rfl) (by kernel_rfl) rfl (fun _ => rfl) (fun x y _ => by kernel_rfl)
abbrev X_f3n : Type := TPg × TSt × Int
abbrev R_f3n : Type := TA6
noncomputable def J_f3n : Job Tryz.prog :=
  job Tryz.prog Tryz.f70 24 [(3, 3), (4, 3), (9, 1)] [] [] [] [.any] [] [con_fl] R_f3n [] fun y => [e_TA6 y]
noncomputable def S_f3n : LabS :=
  lab0 Tryz.f70 3 0 X_f3n (fun x => [e_TPg x.1, e_TSt x.2.1, (V.int .i64) x.2.2]) fun l => (d_TPg (at_ l 0), d_TSt (at_ l 1), dI (at_ l 2))
noncomputable def tt_f3n (x : X_f3n) : TT Tryz.prog R_f3n :=
 (.need (inb x.snd.snd x.fst.Threads.n) <|
 (.need (inb x.snd.snd x.snd.fst.Threads.n) <|
 (.call con_fl ((x.fst.Threads.get (Int.toNat x.snd.snd)), (x.snd.fst.Threads.get (Int.toNat x.snd.snd))) fun (y1 : R_fl) =>
 (.ret y1.snd))))
theorem sd_f3n (x : X_f3n) : (tt_f3n x).Sides :=
  (TT.sN (TT.sN (TT.sC fun _ => TT.sR)))
noncomputable def D_f3n : Dyn X_f3n R_f3n := .of tt_f3n
noncomputable def con_f3n : Con Tryz.prog :=
  mkCon 70 J_f3n S_f3n D_f3n D_f3n (fun _ _ h => h) 3 0 [sh_TPg, sh_TSt, .any] (by kernel_rfl) (by kernel_rfl) (by kernel_rfl) (lbk mxk lbn 4000 (fun x => by kernel_rfl) sd_f3n) rfl rfl (fun _ => rfl) (by kernel_rfl) rfl (fun _ => rfl) (fun x y _ => by kernel_rfl)
abbrev X_f2o : Type := TA6 × TEv
abbrev R_f2o : Type := Bool
noncomputable def J_f2o : Job Tryz.prog :=
  job Tryz.prog Tryz.f119 166 [(2, 3), (3, 3)] [] [] [] [.any] [] [] R_f2o [] fun y => [V.bool y]
noncomputable def S_f2o : LabS :=
  lab0 Tryz.f119 2 0 X_f2o (fun x => [e_TA6 x.1, e_TEv x.2]) fun l => (d_TA6 (at_ l 0), d_TEv (at_ l 1))
structure X_f2o_2 where
  a_2 : TA6
  e_3 : TEv
  try_5 : Bool
noncomputable def S_f2o_2 : LabS :=
  labAt Tryz.f119 2 [(2, .any), (3, .any), (5, .any)] [] [] X_f2o_2 (fun x => [(eVp e_TA6) x.a_2, (eVp e_TEv) x.e_3, V.bool x.try_5]) fun l => ⟨(dVp d_TA6) (at_ l 0), (dVp d_TEv) (at_ l 1), dB (at_ l 2)⟩
noncomputable def tt_f2o_2 (x : X_f2o_2) : TT Tryz.prog R_f2o :=
 (.ite (ieq x.e_3.Kind 1)
 (.ite (ieq x.a_2.Kind 1)
 (.ret (ieq x.a_2.Ring x.e_3.Ring))
 (.ret false))
 (.ite (ieq x.e_3.Kind 2)
 (.ite (ieq x.a_2.Kind 10)
 (.ite (ieq x.a_2.Ring x.e_3.Ring)
 (.ret (ieq x.a_2.Ticket x.e_3.Ticket))
 (.ret false))
 (.ret false))
 (.ite (ieq x.e_3.Kind 3)
 (.ite (ieq x.a_2.Kind 2)
 (.ret (ieq x.a_2.Ring x.e_3.Ring))
 (.ret false))
 (.ite (ieq x.e_3.Kind 4)
 (.ite (ieq x.a_2.Kind 11)
 (.ite (ieq x.a_2.Ring x.e_3.Ring)
 (.ret (ieq x.a_2.Ticket x.e_3.Ticket))
 (.ret false))
 (.ret false))
 (.ite (ieq x.e_3.Kind 5)
 (.ite x.try_5
 (.ite (ieq x.a_2.Mode 0)
 (.ret (ieq x.a_2.Ring x.e_3.Ring))
 (.ret false))
 (.ret false))
 (.ite (ieq x.e_3.Kind 6)
 (.ite x.try_5
 (.ret (ieq x.a_2.Ring x.e_3.Ring))
 (.ret false))
 (.ite (ieq x.e_3.Kind 7)
 (.ite x.try_5
 (.ite (ieq x.a_2.Mode 2)
 (.ret (ieq x.a_2.Ring x.e_3.Ring))
 (.ret false))
 (.ret false))
 (.ite (ieq x.e_3.Kind 8)
 (.ret (ieq x.a_2.Kind 4))
 (.ite (ieq x.e_3.Kind 9)
 (.ret (ieq x.a_2.Kind 5))
 (.ite (ieq x.e_3.Kind 10)
 (.ret (ieq x.a_2.Kind 6))
 (.ite (ieq x.e_3.Kind 11)
 (.ret (ieq x.a_2.Kind 6))
 (.ite (ieq x.e_3.Kind 12)
 (.ite (ieq x.a_2.Kind 7)
 (.ret (ieq x.a_2.Value x.e_3.Value))
 (.ret false))
 (.ite (ieq x.e_3.Kind 13)
 (.ite (ieq x.a_2.Kind 3)
 (.ret (ieq x.a_2.Ring x.e_3.Ring))
 (.ret false))
 (.ite (ieq x.e_3.Kind 14)
 (.ret (ieq x.a_2.Kind 8))
 (.ret (ieq x.a_2.Kind 9))))))))))))))))
theorem sd_f2o_2 (x : X_f2o_2) : (tt_f2o_2 x).Sides :=
  (TT.sI (TT.sI TT.sR TT.sR) (TT.sI (TT.sI (TT.sI TT.sR TT.sR) TT.sR) (TT.sI (TT.sI TT.sR TT.sR) (TT.sI (TT.sI (TT.sI TT.sR TT.sR) TT.sR) (TT.sI (TT.sI (TT.sI TT.sR TT.sR) TT.sR) (TT.sI (TT.sI TT.sR TT.sR) (TT.sI (TT.sI (TT.sI TT.sR TT.sR) TT.sR) (TT.sI TT.sR (TT.sI TT.sR (TT.sI TT.sR (TT.sI TT.sR (TT.sI (TT.sI TT.sR TT.sR) (TT.sI (TT.sI TT.sR TT.sR) (TT.sI TT.sR TT.sR))))))))))))))
noncomputable def D_f2o_2 : Dyn X_f2o_2 R_f2o := .of tt_f2o_2
theorem ok_f2o_2 : LabOK J_f2o S_f2o_2 D_f2o_2 :=
  lbk mxk lbn 4000 (fun x => by kernel_rfl) sd_f2o_2
noncomputable def tt_f2o (x : X_f2o) : TT Tryz.prog R_f2o :=
 (.ite (ieq x.fst.Kind 1)
 (.jump S_f2o_2 D_f2o_2 (X_f2o_2.mk x.fst x.snd true))
 (.jump S_f2o_2 D_f2o_2 (X_f2o_2.mk x.fst x.snd (ieq x.fst.Kind 2))))
theorem sd_f2o (x : X_f2o) : (tt_f2o x).Sides :=
  (TT.sI TT.sJ TT.sJ)
noncomputable def D_f2o : Dyn X_f2o R_f2o := .of tt_f2o
noncomputable def con_f2o : Con Tryz.prog :=
  mkCon 119 J_f2o S_f2o D_f2o D_f2o (fun _ _ h => h) 2 0 [.any, .any] (by kernel_rfl) (by kernel_rfl) (by kernel_rfl) (lbk mxk (lbc ok_f2o_2 rfl lbn) 4000 (fun x => by kernel_rfl) sd_f2o) rfl rfl (fun _ => rfl) (by kernel_rfl) rfl (fun _ => rfl) (fun x y _ => by kernel_rfl)
abbrev X_f42 : Type := TPg × TSt × TEv
abbrev R_f42 : Type := Int
noncomputable def J_f42 : Job Tryz.prog :=
  job Tryz.prog Tryz.f71 31 [(3, 3), (4, 3), (5, 3)] [] [] [] [.any] [] [con_f2i, con_f2o, con_f3n] R_f42 [] fun y => [(V.int .i64) y]
noncomputable def S_f42 : LabS :=
  lab0 Tryz.f71 3 0 X_f42 (fun x => [e_TPg x.1, e_TSt x.2.1, e_TEv x.2.2]) fun l => (d_TPg (at_ l 0), d_TSt (at_ l 1), d_TEv (at_ l 2))
noncomputable def tt_f42 (x : X_f42) : TT Tryz.prog R_f42 :=
 (.call con_f2i x.snd.snd fun (y1 : R_f2i) =>
 (.ite (!y1)
 (.ret 3)
 (.ite (ile ((x.snd.fst.Threads.n : Nat) : Int) x.snd.snd.Thread)
 (.ret 5)
 (.call con_f3n (x.fst, (x.snd.fst, x.snd.snd.Thread)) fun (y2 : R_f3n) =>
 (.ite (ieq y2.Kind 0)
 (.ret 11)
 (.call con_f2o (y2, x.snd.snd) fun (y3 : R_f2o) =>
 (.ite (!y3)
 (.ret 11)
 (.ret 0))))))))
theorem sd_f42 (x : X_f42) : (tt_f42 x).Sides :=
  (TT.sC fun _ => (TT.sI TT.sR (TT.sI TT.sR (TT.sC fun _ => (TT.sI TT.sR (TT.sC fun _ => (TT.sI TT.sR TT.sR)))))))
noncomputable def D_f42 : Dyn X_f42 R_f42 := .of tt_f42
noncomputable def con_f42 : Con Tryz.prog :=
  mkCon 71 J_f42 S_f42 D_f42 D_f42 (fun _ _ h => h) 3 0 [sh_TPg, sh_TSt, .any] (by kernel_rfl) (by kernel_rfl) (by kernel_rfl) (lbk mxk lbn 4000 (fun x => by kernel_rfl) sd_f42) rfl rfl (fun _ => rfl) (by kernel_rfl) rfl (fun _ => rfl) (fun x y _ => by kernel_rfl)
abbrev X_f49 : Type := TRg × TRs
abbrev R_f49 : Type := TR3
noncomputable def J_f49 : Job Tryz.prog :=
  job Tryz.prog Tryz.f165 24 [(2, 3), (3, 3)] [] [] [] [sh_TR3] [] [] R_f49 [] fun y => [e_TR3 y]
noncomputable def S_f49 : LabS :=
  lab0 Tryz.f165 2 0 X_f49 (fun x => [e_TRg x.1, e_TRs x.2]) fun l => (d_TRg (at_ l 0), d_TRs (at_ l 1))
noncomputable def tt_f49 (x : X_f49) : TT Tryz.prog R_f49 :=
 (.need (true && (room ((0 : Nat) + x.snd.Heads.n) 8)) <|
 (.need (true && (room ((0 : Nat) + x.snd.Slots.n) 24)) <|
 (.ret (TR3.mk (IntKind.u64.wrap x.fst.Cap) x.snd.Tail (Sl.mk (cond (Nat.beq x.snd.Heads.n 0) false false) ((0 : Nat) + x.snd.Heads.n) (fun i1 => (cond (Nat.blt i1 0) (0 : Int) (x.snd.Heads.get (i1 - 0))))) x.snd.Closed (TR2.mk (Sl.mk (cond (Nat.beq x.snd.Slots.n 0) false false) ((0 : Nat) + x.snd.Slots.n) (fun i1 => (TSo.mk (cond (Nat.blt i1 0) (0 : Int) (x.snd.Slots.get (i1 - 0)).Stamp) (cond (Nat.blt i1 0) (0 : Int) (x.snd.Slots.get (i1 - 0)).Value) (cond (Nat.blt i1 0) (0 : Int) (x.snd.Slots.get (i1 - 0)).Left)))) x.fst.Readers)))))
theorem sd_f49 (x : X_f49) : (tt_f49 x).Sides :=
  (TT.sN (TT.sN TT.sR))
noncomputable def D_f49 : Dyn X_f49 R_f49 := .of tt_f49
noncomputable def con_f49 : Con Tryz.prog :=
  mkCon 165 J_f49 S_f49 D_f49 D_f49 (fun _ _ h => h) 2 0 [.any, sh_TRs] (by kernel_rfl) (by kernel_rfl) (by kernel_rfl) (lbk mxk lbn 4000 (fun x => by kernel_rfl) sd_f49) rfl rfl (fun _ => rfl) (by kernel_rfl) rfl (fun _ => rfl) (fun x y _ => by kernel_rfl)
abbrev X_f3o : Type := TPg × TSt × Int
abbrev R_f3o : Type := TR3
noncomputable def J_f3o : Job Tryz.prog :=
  job Tryz.prog Tryz.f120 18 [(3, 3), (4, 3)] [] [] [] [sh_TR3] [] [con_f49] R_f3o [] fun y => [e_TR3 y]
noncomputable def S_f3o : LabS :=
  lab0 Tryz.f120 3 0 X_f3o (fun x => [e_TPg x.1, e_TSt x.2.1, (V.int .i64) x.2.2]) fun l => (d_TPg (at_ l 0), d_TSt (at_ l 1), dI (at_ l 2))
noncomputable def tt_f3o (x : X_f3o) : TT Tryz.prog R_f3o :=
 (.need (inb x.snd.snd x.fst.Rings.n) <|
 (.need (inb x.snd.snd x.snd.fst.Rings.n) <|
 (.call con_f49 ((x.fst.Rings.get (Int.toNat x.snd.snd)), (x.snd.fst.Rings.get (Int.toNat x.snd.snd))) fun (y1 : R_f49) =>
 (.ret y1))))
theorem sd_f3o (x : X_f3o) : (tt_f3o x).Sides :=
  (TT.sN (TT.sN (TT.sC fun _ => TT.sR)))
noncomputable def D_f3o : Dyn X_f3o R_f3o := .of tt_f3o
noncomputable def con_f3o : Con Tryz.prog :=
  mkCon 120 J_f3o S_f3o D_f3o D_f3o (fun _ _ h => h) 3 0 [sh_TPg, sh_TSt, .any] (by kernel_rfl) (by kernel_rfl) (by kernel_rfl) (lbk mxk lbn 4000 (fun x => by kernel_rfl) sd_f3o) rfl rfl (fun _ => rfl) (by kernel_rfl) rfl (fun _ => rfl) (fun x y _ => by kernel_rfl)
abbrev X_fs : Type := (Sl Int)
abbrev R_fs : Type := Int
noncomputable def J_fs : Job Tryz.prog :=
  job Tryz.prog Tryz.f166 25 [] [] [] [] [.any] [] [] R_fs [] fun y => [(V.int .u64) y]
noncomputable def S_fs : LabS :=
  lab0 Tryz.f166 1 0 X_fs (fun x => [esl_u64 x]) fun l => (dsl_u64 (at_ l 0))
structure X_fs_3 where
  l_0 : (Sl Int)
  n_3 : Int
  i_4 : Int
noncomputable def S_fs_3 : LabS :=
  labAt Tryz.f166 3 [(0, hsl_u64), (3, .any), (4, .any)] [] [] X_fs_3 (fun x => [esl_u64 x.l_0, (V.int .u64) x.n_3, (V.int .i64) x.i_4]) fun l => ⟨dsl_u64 (at_ l 0), dI (at_ l 1), dI (at_ l 2)⟩
structure X_fs_4 where
  l_0 : (Sl Int)
  n_3 : Int
  i_4 : Int
noncomputable def S_fs_4 : LabS :=
  labAt Tryz.f166 4 [(0, hsl_u64), (3, .any), (4, .any)] [] [] X_fs_4 (fun x => [esl_u64 x.l_0, (V.int .u64) x.n_3, (V.int .i64) x.i_4]) fun l => ⟨dsl_u64 (at_ l 0), dI (at_ l 1), dI (at_ l 2)⟩
noncomputable def tt_fs_4 (D_fs_3 : Dyn X_fs_3 R_fs) (x : X_fs_4) : TT Tryz.prog R_fs :=
 (.jump S_fs_3 D_fs_3 (X_fs_3.mk x.l_0 x.n_3 (IntKind.i64.wrap (x.i_4 + 1))))
theorem sd_fs_4 (D_fs_3 : Dyn X_fs_3 R_fs) (x : X_fs_4) : (tt_fs_4 D_fs_3 x).Sides :=
  TT.sJ
noncomputable def D_fs_4 (D_fs_3 : Dyn X_fs_3 R_fs) : Dyn X_fs_4 R_fs := .of (tt_fs_4 D_fs_3)
theorem ok_fs_4 (D_fs_3 : Dyn X_fs_3 R_fs) (h_3 : LabOK J_fs S_fs_3 D_fs_3) : LabOK J_fs S_fs_4 (D_fs_4 D_fs_3) :=
  lbk mxk (lbc h_3 rfl lbn) 4000 (fun x => by kernel_rfl) (sd_fs_4 D_fs_3)
noncomputable def tt_fs_3 (D_fs_3 : Dyn X_fs_3 R_fs) (x : X_fs_3) : TT Tryz.prog R_fs :=
 (.ite (ilt x.i_4 ((x.l_0.n : Nat) : Int))
 (.need (inb x.i_4 x.l_0.n) <|
 (.ite (ilt (x.l_0.get (Int.toNat x.i_4)) x.n_3)
 (.need (inb x.i_4 x.l_0.n) <|
 (.jump S_fs_4 (D_fs_4 D_fs_3) (X_fs_4.mk x.l_0 (x.l_0.get (Int.toNat x.i_4)) x.i_4)))
 (.jump S_fs_4 (D_fs_4 D_fs_3) (X_fs_4.mk x.l_0 x.n_3 x.i_4))))
 (.ret x.n_3))
theorem sd_fs_3 (D_fs_3 : Dyn X_fs_3 R_fs) (x : X_fs_3) : (tt_fs_3 D_fs_3 x).Sides :=
  (TT.sI (TT.sN (TT.sI (TT.sN TT.sJ) TT.sJ)) TT.sR)
noncomputable def D_fs_3 : Dyn X_fs_3 R_fs := Dyn.loop tt_fs_3
theorem ok_fs_3 : LabOK J_fs S_fs_3 D_fs_3 :=
  loop_ok fun D_fs_3 h_3 => lbk mxk (lbc h_3 rfl (lbc (ok_fs_4 D_fs_3 h_3) rfl lbn)) 4000 (fun x => by kernel_rfl) (sd_fs_3 D_fs_3)
noncomputable def tt_fs (x : X_fs) : TT Tryz.prog R_fs :=
 (.need (inb 0 x.n) <|
 (.jump S_fs_3 D_fs_3 (X_fs_3.mk x (x.get (Int.toNat 0)) 0)))
theorem sd_fs (x : X_fs) : (tt_fs x).Sides :=
  (TT.sN TT.sJ)
noncomputable def D_fs : Dyn X_fs R_fs := .of tt_fs
noncomputable def con_fs : Con Tryz.prog :=
  mkCon 166 J_fs S_fs D_fs D_fs (fun _ _ h => h) 1 0 [hsl_u64] (by kernel_rfl) (by kernel_rfl) (by kernel_rfl) (lbk mxk (lbc ok_fs_3 rfl lbn) 4000 (fun x => by kernel_rfl) sd_fs) rfl rfl (fun _ => rfl) (by kernel_rfl) rfl (fun _ => rfl) (fun x y _ => by kernel_rfl)
abbrev X_f3r : Type := TR3
abbrev R_f3r : Type := Bool
noncomputable def J_f3r : Job Tryz.prog :=
  job Tryz.prog Tryz.f121 12 [(1, 3)] [] [] [] [.any] [] [con_fs] R_f3r [] fun y => [V.bool y]
noncomputable def S_f3r : LabS :=
  lab0 Tryz.f121 1 0 X_f3r (fun x => [e_TR3 x]) fun l => (d_TR3 (at_ l 0))
noncomputable def tt_f3r (x : X_f3r) : TT Tryz.prog R_f3r :=
 (.call con_fs x.Heads fun (y1 : R_fs) =>
 (.ret (ile x.Cap (IntKind.u64.wrap (x.Tail - y1)))))
theorem sd_f3r (x : X_f3r) : (tt_f3r x).Sides :=
  (TT.sC fun _ => TT.sR)
noncomputable def D_f3r : Dyn X_f3r R_f3r := .of tt_f3r
noncomputable def con_f3r : Con Tryz.prog :=
  mkCon 121 J_f3r S_f3r D_f3r D_f3r (fun _ _ h => h) 1 0 [sh_TR3] (by kernel_rfl) (by kernel_rfl) (by kernel_rfl) (lbk mxk lbn 4000 (fun x => by kernel_rfl) sd_f3r) rfl rfl (fun _ => rfl) (by kernel_rfl) rfl (fun _ => rfl) (fun x y _ => by kernel_rfl)
abbrev X_f2c : Type := Int
abbrev R_f2c : Type := Int
noncomputable def J_f2c : Job Tryz.prog :=
  job Tryz.prog Tryz.f144 14 [] [] [] [] [.any] [] [] R_f2c [] fun y => [(V.int .i64) y]
noncomputable def S_f2c : LabS :=
  lab0 Tryz.f144 1 0 X_f2c (fun x => [(V.int .i64) x]) fun l => (dI (at_ l 0))
structure X_f2c_3 where
  readers_0 : Int
  n_3 : Int
  i_4 : Int
noncomputable def S_f2c_3 : LabS :=
  labAt Tryz.f144 3 [(0, .any), (3, .any), (4, .any)] [] [] X_f2c_3 (fun x => [(V.int .i64) x.readers_0, (V.int .i64) x.n_3, (V.int .i64) x.i_4]) fun l => ⟨dI (at_ l 0), dI (at_ l 1), dI (at_ l 2)⟩
noncomputable def tt_f2c_3 (D_f2c_3 : Dyn X_f2c_3 R_f2c) (x : X_f2c_3) : TT Tryz.prog R_f2c :=
 (.ite (ilt x.i_4 x.readers_0)
 (.jump S_f2c_3 D_f2c_3 (X_f2c_3.mk x.readers_0 (IntKind.i64.wrap ((2 : Int) * x.n_3)) (IntKind.i64.wrap (x.i_4 + 1))))
 (.ret (IntKind.i64.wrap (x.n_3 - 1))))
theorem sd_f2c_3 (D_f2c_3 : Dyn X_f2c_3 R_f2c) (x : X_f2c_3) : (tt_f2c_3 D_f2c_3 x).Sides :=
  (TT.sI TT.sJ TT.sR)
noncomputable def D_f2c_3 : Dyn X_f2c_3 R_f2c := Dyn.loop tt_f2c_3
theorem ok_f2c_3 : LabOK J_f2c S_f2c_3 D_f2c_3 :=
  loop_ok fun D_f2c_3 h_3 => lbk mxk (lbc h_3 rfl lbn) 4000 (fun x => by kernel_rfl) (sd_f2c_3 D_f2c_3)
noncomputable def tt_f2c (x : X_f2c) : TT Tryz.prog R_f2c :=
 (.jump S_f2c_3 D_f2c_3 (X_f2c_3.mk x 1 0))
theorem sd_f2c (x : X_f2c) : (tt_f2c x).Sides :=
  TT.sJ
noncomputable def D_f2c : Dyn X_f2c R_f2c := .of tt_f2c
noncomputable def con_f2c : Con Tryz.prog :=
  mkCon 144 J_f2c S_f2c D_f2c D_f2c (fun _ _ h => h) 1 0 [.any] (by kernel_rfl) (by kernel_rfl) (by kernel_rfl) (lbk mxk (lbc ok_f2c_3 rfl lbn) 4000 (fun x => by kernel_rfl) sd_f2c) rfl rfl (fun _ => rfl) (by kernel_rfl) rfl (fun _ => rfl) (fun x y _ => by kernel_rfl)
abbrev X_f3s : Type := TR2 × Int × TSo
abbrev R_f3s : Type := TR2
noncomputable def J_f3s : Job Tryz.prog :=
  job Tryz.prog Tryz.f195 18 [(5, 3), (7, 1)] [(3, [.close (.loc 13 0), .frz (.loc 3 0) [.fld 0 0]])] [] [.close (.loc 13 0)] [sh_TR2] [] [] R_f3s [] fun y => [e_TR2 y]
noncomputable def S_f3s : LabS :=
  lab0 Tryz.f195 3 0 X_f3s (fun x => [e_TR2 x.1, (V.int .i64) x.2.1, e_TSo x.2.2]) fun l => (d_TR2 (at_ l 0), dI (at_ l 1), d_TSo (at_ l 2))
noncomputable def tt_f3s (x : X_f3s) : TT Tryz.prog R_f3s :=
 (.need (true && (room ((0 : Nat) + x.fst.L.n) 24)) <|
 (.need (inb x.snd.fst ((0 : Nat) + x.fst.L.n)) <|
 (.need ((Nat.beq ((0 : Nat) + x.fst.L.n) ((0 : Nat) + x.fst.L.n)) && true) <|
 (.need ((true && true) && (Nat.beq ((0 : Nat) + x.fst.L.n) ((0 : Nat) + x.fst.L.n))) <|
 (.side (∀ i1 : Nat, ((i1 < ((0 : Nat) + x.fst.L.n)) → ((true && (true && (true && true))) = true))) <|
 (.ret (TR2.mk (Sl.mk (cond (Nat.beq x.fst.L.n 0) false false) ((0 : Nat) + x.fst.L.n) (fun i1 => (TSo.mk (cond (Nat.beq i1 ((0 : Nat) + (Int.toNat x.snd.fst))) x.snd.snd.Stamp (cond (Nat.blt i1 0) (0 : Int) (x.fst.L.get (i1 - 0)).Stamp)) (cond (Nat.beq i1 ((0 : Nat) + (Int.toNat x.snd.fst))) x.snd.snd.Value (cond (Nat.blt i1 0) (0 : Int) (x.fst.L.get (i1 - 0)).Value)) (cond (Nat.beq i1 ((0 : Nat) + (Int.toNat x.snd.fst))) x.snd.snd.Left (cond (Nat.blt i1 0) (0 : Int) (x.fst.L.get (i1 - 0)).Left))))) x.fst.Readers)))))))
theorem sd_f3s (x : X_f3s) : (tt_f3s x).Sides :=
  (TT.sN (TT.sN (TT.sN (TT.sN (TT.sS (fun _ _ => rfl) TT.sR)))))
noncomputable def D_f3s : Dyn X_f3s R_f3s := .of tt_f3s
noncomputable def con_f3s : Con Tryz.prog :=
  mkCon 195 J_f3s S_f3s D_f3s D_f3s (fun _ _ h => h) 3 0 [sh_TR2, .any, .any] (by kernel_rfl) (by kernel_rfl) (by kernel_rfl) (lbk mxk lbn 4000 (fun x => by kernel_rfl) sd_f3s) rfl rfl (fun _ => rfl) (by kernel_rfl) rfl (fun _ => rfl) (fun x y _ => by kernel_rfl)
abbrev X_f45 : Type := TR2 × Int × Int
abbrev R_f45 : Type := Int × TR2
noncomputable def J_f45 : Job Tryz.prog :=
  job Tryz.prog Tryz.f167 50 [(3, 3)] [] [] [] [.any, sh_TR2] [] [con_f2c, con_f3s] R_f45 [] fun y => [V.tup (V.cons ((V.int .i64) y.1) (V.cons (e_TR2 y.2) (V.unit)))]
noncomputable def S_f45 : LabS :=
  lab0 Tryz.f167 3 0 X_f45 (fun x => [e_TR2 x.1, (V.int .u64) x.2.1, (V.int .u64) x.2.2]) fun l => (d_TR2 (at_ l 0), dI (at_ l 1), dI (at_ l 2))
noncomputable def tt_f45 (x : X_f45) : TT Tryz.prog R_f45 :=
 (.ite (ile 4611686018427387904 x.snd.fst)
 (.ret (1, x.fst))
 (.need (!(ieq (IntKind.u64.wrap ((x.fst.L.n : Nat) : Int)) 0)) <|
 (.need (inb (IntKind.i64.wrap (Int.tmod x.snd.fst (IntKind.u64.wrap ((x.fst.L.n : Nat) : Int)))) x.fst.L.n) <|
 (.ite (ilt (x.fst.L.get (Int.toNat (IntKind.i64.wrap (Int.tmod x.snd.fst (IntKind.u64.wrap ((x.fst.L.n : Nat) : Int)))))).Stamp (IntKind.u64.wrap ((2 : Int) * x.snd.fst)))
 (.ret (8, x.fst))
 (.need (inb (IntKind.i64.wrap (Int.tmod x.snd.fst (IntKind.u64.wrap ((x.fst.L.n : Nat) : Int)))) x.fst.L.n) <|
 (.ite (ilt (IntKind.u64.wrap ((2 : Int) * x.snd.fst)) (x.fst.L.get (Int.toNat (IntKind.i64.wrap (Int.tmod x.snd.fst (IntKind.u64.wrap ((x.fst.L.n : Nat) : Int)))))).Stamp)
 (.ret (11, x.fst))
 (.call con_f2c x.fst.Readers fun (y1 : R_f2c) =>
 (.call con_f3s (x.fst, ((IntKind.i64.wrap (Int.tmod x.snd.fst (IntKind.u64.wrap ((x.fst.L.n : Nat) : Int)))), (TSo.mk (IntKind.u64.wrap ((IntKind.u64.wrap ((2 : Int) * x.snd.fst)) + 1)) x.snd.snd y1))) fun (y2 : R_f3s) =>
 (.ret (0, y2))))))))))
theorem sd_f45 (x : X_f45) : (tt_f45 x).Sides :=
  (TT.sI TT.sR (TT.sN (TT.sN (TT.sI TT.sR (TT.sN (TT.sI TT.sR (TT.sC fun _ => (TT.sC fun _ => TT.sR))))))))
noncomputable def D_f45 : Dyn X_f45 R_f45 := .of tt_f45
noncomputable def con_f45 : Con Tryz.prog :=
  mkCon 167 J_f45 S_f45 D_f45 D_f45 (fun _ _ h => h) 3 0 [sh_TR2, .any, .any] (by kernel_rfl) (by kernel_rfl) (by kernel_rfl) (lbk mxk lbn 4000 (fun x => by kernel_rfl) sd_f45) rfl rfl (fun _ => rfl) (by kernel_rfl) rfl (fun _ => rfl) (fun x y _ => by kernel_rfl)
abbrev X_f30 : Type := TR3 × Int × Int
abbrev R_f30 : Type := Int × TR3
noncomputable def J_f30 : Job Tryz.prog :=
  job Tryz.prog Tryz.f122 27 [(15, 1)] [] [] [] [.any, sh_TR3] [] [con_f45] R_f30 [] fun y => [V.tup (V.cons ((V.int .i64) y.1) (V.cons (e_TR3 y.2) (V.unit)))]
noncomputable def S_f30 : LabS :=
  lab0 Tryz.f122 3 0 X_f30 (fun x => [e_TR3 x.1, (V.int .u64) x.2.1, (V.int .u64) x.2.2]) fun l => (d_TR3 (at_ l 0), dI (at_ l 1), dI (at_ l 2))
noncomputable def tt_f30 (x : X_f30) : TT Tryz.prog R_f30 :=
 (.ite (ile x.fst.Tail x.snd.fst)
 (.ret (11, x.fst))
 (.call con_f45 (x.fst.S, x.snd) fun (y1 : R_f45) =>
 (.ret (y1.fst, (TR3.mk x.fst.Cap x.fst.Tail x.fst.Heads x.fst.Closed y1.snd)))))
theorem sd_f30 (x : X_f30) : (tt_f30 x).Sides :=
  (TT.sI TT.sR (TT.sC fun _ => TT.sR))
noncomputable def D_f30 : Dyn X_f30 R_f30 := .of tt_f30
noncomputable def con_f30 : Con Tryz.prog :=
  mkCon 122 J_f30 S_f30 D_f30 D_f30 (fun _ _ h => h) 3 0 [sh_TR3, .any, .any] (by kernel_rfl) (by kernel_rfl) (by kernel_rfl) (lbk mxk lbn 4000 (fun x => by kernel_rfl) sd_f30) rfl rfl (fun _ => rfl) (by kernel_rfl) rfl (fun _ => rfl) (fun x y _ => by kernel_rfl)
abbrev X_f3w : Type := TR3 × Int
abbrev R_f3w : Type := Bool
noncomputable def J_f3w : Job Tryz.prog :=
  job Tryz.prog Tryz.f123 13 [(2, 3)] [] [] [] [.any] [] [] R_f3w [] fun y => [V.bool y]
noncomputable def S_f3w : LabS :=
  lab0 Tryz.f123 2 0 X_f3w (fun x => [e_TR3 x.1, (V.int .i64) x.2]) fun l => (d_TR3 (at_ l 0), dI (at_ l 1))
noncomputable def tt_f3w (x : X_f3w) : TT Tryz.prog R_f3w :=
 (.need (inb x.snd x.fst.Heads.n) <|
 (.ret (ieq (x.fst.Heads.get (Int.toNat x.snd)) x.fst.Tail)))
theorem sd_f3w (x : X_f3w) : (tt_f3w x).Sides :=
  (TT.sN TT.sR)
noncomputable def D_f3w : Dyn X_f3w R_f3w := .of tt_f3w
noncomputable def con_f3w : Con Tryz.prog :=
  mkCon 123 J_f3w S_f3w D_f3w D_f3w (fun _ _ h => h) 2 0 [sh_TR3, .any] (by kernel_rfl) (by kernel_rfl) (by kernel_rfl) (lbk mxk lbn 4000 (fun x => by kernel_rfl) sd_f3w) rfl rfl (fun _ => rfl) (by kernel_rfl) rfl (fun _ => rfl) (fun x y _ => by kernel_rfl)
abbrev X_f2h : Type := Int × Int
abbrev R_f2h : Type := Bool
noncomputable def J_f2h : Job Tryz.prog :=
  job Tryz.prog Tryz.f196 16 [] [] [] [] [.any] [] [] R_f2h [] fun y => [V.bool y]
noncomputable def S_f2h : LabS :=
  lab0 Tryz.f196 2 0 X_f2h (fun x => [(V.int .i64) x.1, (V.int .i64) x.2]) fun l => (dI (at_ l 0), dI (at_ l 1))
structure X_f2h_2 where
  left_0 : Int
  j_1 : Int
  i_5 : Int
noncomputable def S_f2h_2 : LabS :=
  labAt Tryz.f196 2 [(0, .any), (1, .any), (5, .any)] [] [] X_f2h_2 (fun x => [(V.int .i64) x.left_0, (V.int .i64) x.j_1, (V.int .i64) x.i_5]) fun l => ⟨dI (at_ l 0), dI (at_ l 1), dI (at_ l 2)⟩
noncomputable def tt_f2h_2 (D_f2h_2 : Dyn X_f2h_2 R_f2h) (x : X_f2h_2) : TT Tryz.prog R_f2h :=
 (.ite (ilt x.i_5 x.j_1)
 (.jump S_f2h_2 D_f2h_2 (X_f2h_2.mk (IntKind.i64.wrap (Int.tdiv x.left_0 2)) x.j_1 (IntKind.i64.wrap (x.i_5 + 1))))
 (.ret (ieq (Int.tmod x.left_0 2) 1)))
theorem sd_f2h_2 (D_f2h_2 : Dyn X_f2h_2 R_f2h) (x : X_f2h_2) : (tt_f2h_2 D_f2h_2 x).Sides :=
  (TT.sI TT.sJ TT.sR)
noncomputable def D_f2h_2 : Dyn X_f2h_2 R_f2h := Dyn.loop tt_f2h_2
theorem ok_f2h_2 : LabOK J_f2h S_f2h_2 D_f2h_2 :=
  loop_ok fun D_f2h_2 h_2 => lbk mxk (lbc h_2 rfl lbn) 4000 (fun x => by kernel_rfl) (sd_f2h_2 D_f2h_2)
noncomputable def tt_f2h (x : X_f2h) : TT Tryz.prog R_f2h :=
 (.jump S_f2h_2 D_f2h_2 (X_f2h_2.mk x.fst x.snd 0))
theorem sd_f2h (x : X_f2h) : (tt_f2h x).Sides :=
  TT.sJ
noncomputable def D_f2h : Dyn X_f2h R_f2h := .of tt_f2h
noncomputable def con_f2h : Con Tryz.prog :=
  mkCon 196 J_f2h S_f2h D_f2h D_f2h (fun _ _ h => h) 2 0 [.any, .any] (by kernel_rfl) (by kernel_rfl) (by kernel_rfl) (lbk mxk (lbc ok_f2h_2 rfl lbn) 4000 (fun x => by kernel_rfl) sd_f2h) rfl rfl (fun _ => rfl) (by kernel_rfl) rfl (fun _ => rfl) (fun x y _ => by kernel_rfl)
abbrev X_f1b : Type := TR2 × Int × Int
abbrev R_f1b : Type := Int × Int × TR2
noncomputable def J_f1b : Job Tryz.prog :=
  job Tryz.prog Tryz.f168 83 [(3, 3)] [] [] [] [.any, .any, sh_TR2] [] [con_f2c, con_f2h, con_f3s] R_f1b [] fun y => [V.tup (V.cons ((V.int .u64) y.1) (V.cons ((V.int .i64) y.2.1) (V.cons (e_TR2 y.2.2) (V.unit))))]
noncomputable def S_f1b : LabS :=
  lab0 Tryz.f168 3 0 X_f1b (fun x => [e_TR2 x.1, (V.int .i64) x.2.1, (V.int .u64) x.2.2]) fun l => (d_TR2 (at_ l 0), dI (at_ l 1), dI (at_ l 2))
structure X_f1b_3 where
  j_1 : Int
  t_2 : Int
  s_3 : TR2
  m_8 : TR2
noncomputable def S_f1b_3 : LabS :=
  labAt Tryz.f168 3 [(1, .any), (2, .any), (3, .any), (8, .any)] [] [(.loc 8 0, sh_TR2)] X_f1b_3 (fun x => [(V.int .i64) x.j_1, (V.int .u64) x.t_2, (eVp e_TR2) x.s_3, (V.ptr (.loc 8 0) []), e_TR2 x.m_8]) fun l => ⟨dI (at_ l 0), dI (at_ l 1), (dVp d_TR2) (at_ l 2), d_TR2 (at_ l 4)⟩
structure X_f1b_9 where
  j_1 : Int
  t_2 : Int
  s_3 : TR2
  i_9 : Int
  m_8 : TR2
  m_10 : TSo
noncomputable def S_f1b_9 : LabS :=
  labAt Tryz.f168 9 [(1, .any), (2, .any), (3, .any), (8, .any), (9, .any), (10, .any)] [] [(.loc 8 0, sh_TR2), (.loc 10 0, .any)] X_f1b_9 (fun x => [(V.int .i64) x.j_1, (V.int .u64) x.t_2, (eVp e_TR2) x.s_3, (V.ptr (.loc 8 0) []), (V.int .i64) x.i_9, (V.ptr (.loc 10 0) []), e_TR2 x.m_8, e_TSo x.m_10]) fun l => ⟨dI (at_ l 0), dI (at_ l 1), (dVp d_TR2) (at_ l 2), dI (at_ l 4), d_TR2 (at_ l 6), d_TSo (at_ l 7)⟩
structure X_f1b_13 where
  s_3 : TR2
  i_9 : Int
  v_11 : Int
  m_8 : TR2
  m_10 : TSo
noncomputable def S_f1b_13 : LabS :=
  labAt Tryz.f168 13 [(3, .any), (8, .any), (9, .any), (10, .any), (11, .any)] [] [(.loc 8 0, sh_TR2), (.loc 10 0, .any)] X_f1b_13 (fun x => [(eVp e_TR2) x.s_3, (V.ptr (.loc 8 0) []), (V.int .i64) x.i_9, (V.ptr (.loc 10 0) []), (V.int .u64) x.v_11, e_TR2 x.m_8, e_TSo x.m_10]) fun l => ⟨(dVp d_TR2) (at_ l 0), dI (at_ l 2), dI (at_ l 4), d_TR2 (at_ l 5), d_TSo (at_ l 6)⟩
noncomputable def tt_f1b_13 (x : X_f1b_13) : TT Tryz.prog R_f1b :=
 (.call con_f3s (x.s_3, (x.i_9, x.m_10)) fun (y1 : R_f3s) =>
 (.ret (x.v_11, (0, y1))))
theorem sd_f1b_13 (x : X_f1b_13) : (tt_f1b_13 x).Sides :=
  (TT.sC fun _ => TT.sR)
noncomputable def D_f1b_13 : Dyn X_f1b_13 R_f1b := .of tt_f1b_13
theorem ok_f1b_13 : LabOK J_f1b S_f1b_13 D_f1b_13 :=
  lbk mxk lbn 4000 (fun x => by kernel_rfl) sd_f1b_13
noncomputable def tt_f1b_9 (x : X_f1b_9) : TT Tryz.prog R_f1b :=
 (.call con_f2c x.j_1 fun (y1 : R_f2c) =>
 (.ite (ieq (IntKind.i64.wrap (x.m_10.Left - (IntKind.i64.wrap (y1 + 1)))) 0)
 (.jump S_f1b_13 D_f1b_13 (X_f1b_13.mk x.s_3 x.i_9 x.m_10.Value x.m_8 (TSo.mk (IntKind.u64.wrap ((2 : Int) * (IntKind.u64.wrap (x.t_2 + (IntKind.u64.wrap ((x.s_3.L.n : Nat) : Int)))))) 0 0)))
 (.jump S_f1b_13 D_f1b_13 (X_f1b_13.mk x.s_3 x.i_9 x.m_10.Value x.m_8 (TSo.mk x.m_10.Stamp x.m_10.Value (IntKind.i64.wrap (x.m_10.Left - (IntKind.i64.wrap (y1 + 1)))))))))
theorem sd_f1b_9 (x : X_f1b_9) : (tt_f1b_9 x).Sides :=
  (TT.sC fun _ => (TT.sI TT.sJ TT.sJ))
noncomputable def D_f1b_9 : Dyn X_f1b_9 R_f1b := .of tt_f1b_9
theorem ok_f1b_9 : LabOK J_f1b S_f1b_9 D_f1b_9 :=
  lbk mxk (lbc ok_f1b_13 rfl lbn) 4000 (fun x => by kernel_rfl) sd_f1b_9
noncomputable def tt_f1b_3 (x : X_f1b_3) : TT Tryz.prog R_f1b :=
 (.need (!(ieq (IntKind.u64.wrap ((x.s_3.L.n : Nat) : Int)) 0)) <|
 (.need (inb (IntKind.i64.wrap (Int.tmod x.t_2 (IntKind.u64.wrap ((x.s_3.L.n : Nat) : Int)))) x.s_3.L.n) <|
 (.ite (ilt (x.s_3.L.get (Int.toNat (IntKind.i64.wrap (Int.tmod x.t_2 (IntKind.u64.wrap ((x.s_3.L.n : Nat) : Int)))))).Stamp (IntKind.u64.wrap ((IntKind.u64.wrap ((2 : Int) * x.t_2)) + 1)))
 (.ret (0, (9, x.s_3)))
 (.ite (ilt (IntKind.u64.wrap ((IntKind.u64.wrap ((2 : Int) * x.t_2)) + 1)) (x.s_3.L.get (Int.toNat (IntKind.i64.wrap (Int.tmod x.t_2 (IntKind.u64.wrap ((x.s_3.L.n : Nat) : Int)))))).Stamp)
 (.ret (0, (11, x.s_3)))
 (.call con_f2h ((x.s_3.L.get (Int.toNat (IntKind.i64.wrap (Int.tmod x.t_2 (IntKind.u64.wrap ((x.s_3.L.n : Nat) : Int)))))).Left, x.j_1) fun (y1 : R_f2h) =>
 (.ite (!y1)
 (.ret (0, (11, x.s_3)))
 (.jump S_f1b_9 D_f1b_9 (X_f1b_9.mk x.j_1 x.t_2 x.s_3 (IntKind.i64.wrap (Int.tmod x.t_2 (IntKind.u64.wrap ((x.s_3.L.n : Nat) : Int)))) x.m_8 (x.s_3.L.get (Int.toNat (IntKind.i64.wrap (Int.tmod x.t_2 (IntKind.u64.wrap ((x.s_3.L.n : Nat) : Int))))))))))))))
theorem sd_f1b_3 (x : X_f1b_3) : (tt_f1b_3 x).Sides :=
  (TT.sN (TT.sN (TT.sI TT.sR (TT.sI TT.sR (TT.sC fun _ => (TT.sI TT.sR TT.sJ))))))
noncomputable def D_f1b_3 : Dyn X_f1b_3 R_f1b := .of tt_f1b_3
theorem ok_f1b_3 : LabOK J_f1b S_f1b_3 D_f1b_3 :=
  lbk mxk (lbc ok_f1b_13 rfl (lbc ok_f1b_9 rfl lbn)) 4000 (fun x => by kernel_rfl) sd_f1b_3
noncomputable def tt_f1b (x : X_f1b) : TT Tryz.prog R_f1b :=
 (.ite (ile 4611686018427387904 x.snd.snd)
 (.ret (0, (1, x.fst)))
 (.ite (ilt x.snd.fst 0)
 (.ret (0, (1, x.fst)))
 (.ite (ile x.fst.Readers x.snd.fst)
 (.ret (0, (1, x.fst)))
 (.jump S_f1b_3 D_f1b_3 (X_f1b_3.mk x.snd.fst x.snd.snd x.fst (TR2.mk (Sl.mk true 0 (fun _i1 => (TSo.mk 0 0 0))) 0))))))
theorem sd_f1b (x : X_f1b) : (tt_f1b x).Sides :=
  (TT.sI TT.sR (TT.sI TT.sR (TT.sI TT.sR TT.sJ)))
noncomputable def D_f1b : Dyn X_f1b R_f1b := .of tt_f1b
noncomputable def con_f1b : Con Tryz.prog :=
  mkCon 168 J_f1b S_f1b D_f1b D_f1b (fun _ _ h => h) 3 0 [sh_TR2, .any, .any] (by kernel_rfl) (by kernel_rfl) (by kernel_rfl) (lbk mxk (lbc ok_f1b_13 rfl (lbc ok_f1b_9 rfl (lbc ok_f1b_3 rfl lbn))) 4000 (fun x => by kernel_rfl) sd_f1b) rfl rfl (fun _ => rfl) (by kernel_rfl) rfl (fun _ => rfl) (fun x y _ => by kernel_rfl)
abbrev X_f1n : Type := TR3 × Int × Int
abbrev R_f1n : Type := Int × Int × TR3
noncomputable def J_f1n : Job Tryz.prog :=
  job Tryz.prog Tryz.f124 44 [(30, 1)] [] [] [] [.any, .any, sh_TR3] [] [con_f1b] R_f1n [] fun y => [V.tup (V.cons ((V.int .u64) y.1) (V.cons ((V.int .i64) y.2.1) (V.cons (e_TR3 y.2.2) (V.unit))))]
noncomputable def S_f1n : LabS :=
  lab0 Tryz.f124 3 0 X_f1n (fun x => [e_TR3 x.1, (V.int .i64) x.2.1, (V.int .u64) x.2.2]) fun l => (d_TR3 (at_ l 0), dI (at_ l 1), dI (at_ l 2))
structure X_f1n_3 where
  j_1 : Int
  t_2 : Int
  m_3 : TR3
  m_8 : TR3
noncomputable def S_f1n_3 : LabS :=
  labAt Tryz.f124 3 [(1, .any), (2, .any), (3, .any), (8, .any)] [] [(.loc 3 0, sh_TR3), (.loc 8 0, sh_TR3)] X_f1n_3 (fun x => [(V.int .i64) x.j_1, (V.int .u64) x.t_2, (V.ptr (.loc 3 0) []), (V.ptr (.loc 8 0) []), e_TR3 x.m_3, e_TR3 x.m_8]) fun l => ⟨dI (at_ l 0), dI (at_ l 1), d_TR3 (at_ l 4), d_TR3 (at_ l 5)⟩
noncomputable def tt_f1n_3 (x : X_f1n_3) : TT Tryz.prog R_f1n :=
 (.need (inb x.j_1 x.m_3.Heads.n) <|
 (.ite (ile (x.m_3.Heads.get (Int.toNat x.j_1)) x.t_2)
 (.ret (0, (11, x.m_3)))
 (.call con_f1b (x.m_3.S, (x.j_1, x.t_2)) fun (y1 : R_f1b) =>
 (.ret (y1.fst, (y1.snd.fst, (TR3.mk x.m_3.Cap x.m_3.Tail x.m_3.Heads x.m_3.Closed y1.snd.snd)))))))
theorem sd_f1n_3 (x : X_f1n_3) : (tt_f1n_3 x).Sides :=
  (TT.sN (TT.sI TT.sR (TT.sC fun _ => TT.sR)))
noncomputable def D_f1n_3 : Dyn X_f1n_3 R_f1n := .of tt_f1n_3
theorem ok_f1n_3 : LabOK J_f1n S_f1n_3 D_f1n_3 :=
  lbk mxk lbn 4000 (fun x => by kernel_rfl) sd_f1n_3
noncomputable def tt_f1n (x : X_f1n) : TT Tryz.prog R_f1n :=
 (.ite (ilt x.snd.fst 0)
 (.ret (0, (1, x.fst)))
 (.ite (ile ((x.fst.Heads.n : Nat) : Int) x.snd.fst)
 (.ret (0, (1, x.fst)))
 (.jump S_f1n_3 D_f1n_3 (X_f1n_3.mk x.snd.fst x.snd.snd x.fst (TR3.mk 0 0 (Sl.mk true 0 (fun _i1 => (0 : Int))) false (TR2.mk (Sl.mk true 0 (fun _i1 => (TSo.mk 0 0 0))) 0))))))
theorem sd_f1n (x : X_f1n) : (tt_f1n x).Sides :=
  (TT.sI TT.sR (TT.sI TT.sR TT.sJ))
noncomputable def D_f1n : Dyn X_f1n R_f1n := .of tt_f1n
noncomputable def con_f1n : Con Tryz.prog :=
  mkCon 124 J_f1n S_f1n D_f1n D_f1n (fun _ _ h => h) 3 0 [sh_TR3, .any, .any] (by kernel_rfl) (by kernel_rfl) (by kernel_rfl) (lbk mxk (lbc ok_f1n_3 rfl lbn) 4000 (fun x => by kernel_rfl) sd_f1n) rfl rfl (fun _ => rfl) (by kernel_rfl) rfl (fun _ => rfl) (fun x y _ => by kernel_rfl)
abbrev X_f3p : Type := TPg × TSt × TA6 × TEv × Bool
abbrev R_f3p : Type := Bool
noncomputable def J_f3p : Job Tryz.prog :=
  job Tryz.prog Tryz.f72 92 [(5, 3), (6, 3), (7, 3), (8, 3), (46, 1), (75, 1)] [] [] [] [.any] [] [con_f3r, con_f30, con_f1n, con_f3w, con_f3o] R_f3p [] fun y => [V.bool y]
noncomputable def S_f3p : LabS :=
  lab0 Tryz.f72 5 0 X_f3p (fun x => [e_TPg x.1, e_TSt x.2.1, e_TA6 x.2.2.1, e_TEv x.2.2.2.1, V.bool x.2.2.2.2]) fun l => (d_TPg (at_ l 0), d_TSt (at_ l 1), d_TA6 (at_ l 2), d_TEv (at_ l 3), dB (at_ l 4))
noncomputable def tt_f3p (x : X_f3p) : TT Tryz.prog R_f3p :=
 (.call con_f3o (x.fst, (x.snd.fst, x.snd.snd.snd.fst.Ring)) fun (y1 : R_f3o) =>
 (.ite (ieq x.snd.snd.snd.fst.Kind 1)
 (.ite x.snd.snd.snd.snd
 (.ite (!y1.Closed)
 (.call con_f3r y1 fun (y2 : R_f3r) =>
 (.ite (!y2)
 (.ret (ieq x.snd.snd.snd.fst.Ticket y1.Tail))
 (.ret false)))
 (.ret false))
 (.call con_f3r y1 fun (y2 : R_f3r) =>
 (.ite (!y2)
 (.ret (ieq x.snd.snd.snd.fst.Ticket y1.Tail))
 (.ret false))))
 (.ite (ieq x.snd.snd.snd.fst.Kind 2)
 (.call con_f30 (y1, (x.snd.snd.snd.fst.Ticket, 0)) fun (y2 : R_f30) =>
 (.ret (ieq y2.fst 0)))
 (.ite (ieq x.snd.snd.snd.fst.Kind 3)
 (.call con_f3w (y1, x.snd.snd.fst.Reader) fun (y2 : R_f3w) =>
 (.ite (!y2)
 (.need (inb x.snd.snd.fst.Reader y1.Heads.n) <|
 (.ret (ieq x.snd.snd.snd.fst.Ticket (y1.Heads.get (Int.toNat x.snd.snd.fst.Reader)))))
 (.ret false)))
 (.ite (ieq x.snd.snd.snd.fst.Kind 4)
 (.call con_f1n (y1, (x.snd.snd.fst.Reader, x.snd.snd.snd.fst.Ticket)) fun (y2 : R_f1n) =>
 (.ret (ieq y2.snd.fst 0)))
 (.ret (ieq x.snd.snd.snd.fst.Ticket y1.Tail)))))))
theorem sd_f3p (x : X_f3p) : (tt_f3p x).Sides :=
  (TT.sC fun _ => (TT.sI (TT.sI (TT.sI (TT.sC fun _ => (TT.sI TT.sR TT.sR)) TT.sR) (TT.sC fun _ => (TT.sI TT.sR TT.sR))) (TT.sI (TT.sC fun _ => TT.sR) (TT.sI (TT.sC fun _ => (TT.sI (TT.sN TT.sR) TT.sR)) (TT.sI (TT.sC fun _ => TT.sR) TT.sR)))))
noncomputable def D_f3p : Dyn X_f3p R_f3p := .of tt_f3p
noncomputable def con_f3p : Con Tryz.prog :=
  mkCon 72 J_f3p S_f3p D_f3p D_f3p (fun _ _ h => h) 5 0 [sh_TPg, sh_TSt, .any, .any, .any] (by kernel_rfl) (by kernel_rfl) (by kernel_rfl) (lbk mxk lbn 4000 (fun x => by kernel_rfl) sd_f3p) rfl rfl (fun _ => rfl) (by kernel_rfl) rfl (fun _ => rfl) (fun x y _ => by kernel_rfl)
abbrev X_f2t : Type := TR3 × Int
abbrev R_f2t : Type := Int × Int × TR3
noncomputable def J_f2t : Job Tryz.prog :=
  job Tryz.prog Tryz.f125 51 [(29, 1)] [(9, [.close (.loc 38 0), .close (.loc 35 0), .frz (.loc 2 0) [.fld 2 2]])] [(8, [.opn (.loc 2 0) [.fld 2 2] 35, .opn (.loc 2 0) [.fld 2 2] 38])] [.close (.loc 38 0), .close (.loc 35 0)] [.any, .any, sh_TR3] [] [] R_f2t [(0, [⟨.loc 35 0, .loc 2 0, [.fld 2 2], none, none⟩, ⟨.loc 38 0, .loc 2 0, [.fld 2 2], none, none⟩]), (3, [⟨.loc 35 0, .loc 2 0, [.fld 2 2], none, none⟩, ⟨.loc 38 0, .loc 2 0, [.fld 2 2], none, none⟩])] fun y => [V.tup (V.cons ((V.int .u64) y.1) (V.cons ((V.int .i64) y.2.1) (V.cons (e_TR3 y.2.2) (V.unit))))]
noncomputable def S_f2t : LabS :=
  lab0 Tryz.f125 2 0 X_f2t (fun x => [e_TR3 x.1, (V.int .i64) x.2]) fun l => (d_TR3 (at_ l 0), dI (at_ l 1))
structure X_f2t_3 where
  j_1 : Int
  m_2 : TR3
  m_6 : TR3
noncomputable def S_f2t_3 : LabS :=
  labAt Tryz.f125 3 [(1, .any), (2, .any), (6, .any)] [] [(.loc 2 0, sh_TR3), (.loc 6 0, sh_TR3)] X_f2t_3 (fun x => [(V.int .i64) x.j_1, (V.ptr (.loc 2 0) []), (V.ptr (.loc 6 0) []), e_TR3 x.m_2, e_TR3 x.m_6]) fun l => ⟨dI (at_ l 0), d_TR3 (at_ l 3), d_TR3 (at_ l 4)⟩
noncomputable def tt_f2t_3 (x : X_f2t_3) : TT Tryz.prog R_f2t :=
 (.need (inb x.j_1 x.m_2.Heads.n) <|
 (.ite (ieq (x.m_2.Heads.get (Int.toNat x.j_1)) x.m_2.Tail)
 (.ite x.m_2.Closed
 (.ret (0, (10, x.m_2)))
 (.ret (0, (9, x.m_2))))
 (.need (true && (room ((0 : Nat) + x.m_2.Heads.n) 8)) <|
 (.need (inb x.j_1 ((0 : Nat) + x.m_2.Heads.n)) <|
 (.need ((Nat.beq ((0 : Nat) + x.m_2.Heads.n) ((0 : Nat) + x.m_2.Heads.n)) && true) <|
 (.need (inb x.j_1 ((0 : Nat) + x.m_2.Heads.n)) <|
 (.need ((Nat.beq ((0 : Nat) + x.m_2.Heads.n) ((0 : Nat) + x.m_2.Heads.n)) && true) <|
 (.need ((true && true) && (Nat.beq ((0 : Nat) + x.m_2.Heads.n) ((0 : Nat) + x.m_2.Heads.n))) <|
 (.side (∀ i1 : Nat, ((i1 < ((0 : Nat) + x.m_2.Heads.n)) → (true = true))) <|
 (.need (inb x.j_1 ((0 : Nat) + x.m_2.Heads.n)) <|
 (.ret ((IntKind.u64.wrap ((cond (Nat.beq (Int.toNat x.j_1) ((0 : Nat) + (Int.toNat x.j_1))) (IntKind.u64.wrap ((cond (Nat.blt ((0 : Nat) + (Int.toNat x.j_1)) 0) (0 : Int) (x.m_2.Heads.get (((0 : Nat) + (Int.toNat x.j_1)) - 0))) + 1)) (cond (Nat.blt (Int.toNat x.j_1) 0) (0 : Int) (x.m_2.Heads.get ((Int.toNat x.j_1) - 0)))) - 1)), (0, (TR3.mk x.m_2.Cap x.m_2.Tail (Sl.mk (cond (Nat.beq x.m_2.Heads.n 0) false false) ((0 : Nat) + x.m_2.Heads.n) (fun i1 => (cond (Nat.beq i1 ((0 : Nat) + (Int.toNat x.j_1))) (IntKind.u64.wrap ((cond (Nat.blt ((0 : Nat) + (Int.toNat x.j_1)) 0) (0 : Int) (x.m_2.Heads.get (((0 : Nat) + (Int.toNat x.j_1)) - 0))) + 1)) (cond (Nat.blt i1 0) (0 : Int) (x.m_2.Heads.get (i1 - 0)))))) x.m_2.Closed x.m_2.S))))))))))))))
theorem sd_f2t_3 (x : X_f2t_3) : (tt_f2t_3 x).Sides :=
  (TT.sN (TT.sI (TT.sI TT.sR TT.sR) (TT.sN (TT.sN (TT.sN (TT.sN (TT.sN (TT.sN (TT.sS (fun _ _ => rfl) (TT.sN TT.sR))))))))))
noncomputable def D_f2t_3 : Dyn X_f2t_3 R_f2t := .of tt_f2t_3
theorem ok_f2t_3 : LabOK J_f2t S_f2t_3 D_f2t_3 :=
  lbk mxk lbn 4000 (fun x => by kernel_rfl) sd_f2t_3
noncomputable def tt_f2t (x : X_f2t) : TT Tryz.prog R_f2t :=
 (.ite (ilt x.snd 0)
 (.ret (0, (1, x.fst)))
 (.ite (ile ((x.fst.Heads.n : Nat) : Int) x.snd)
 (.ret (0, (1, x.fst)))
 (.jump S_f2t_3 D_f2t_3 (X_f2t_3.mk x.snd x.fst (TR3.mk 0 0 (Sl.mk true 0 (fun _i1 => (0 : Int))) false (TR2.mk (Sl.mk true 0 (fun _i1 => (TSo.mk 0 0 0))) 0))))))
theorem sd_f2t (x : X_f2t) : (tt_f2t x).Sides :=
  (TT.sI TT.sR (TT.sI TT.sR TT.sJ))
noncomputable def D_f2t : Dyn X_f2t R_f2t := .of tt_f2t
noncomputable def con_f2t : Con Tryz.prog :=
  mkCon 125 J_f2t S_f2t D_f2t D_f2t (fun _ _ h => h) 2 0 [sh_TR3, .any] (by kernel_rfl) (by kernel_rfl) (by kernel_rfl) (lbk mxk (lbc ok_f2t_3 rfl lbn) 4000 (fun x => by kernel_rfl) sd_f2t) rfl rfl (fun _ => rfl) (by kernel_rfl) rfl (fun _ => rfl) (fun x y _ => by kernel_rfl)
abbrev X_fq : Type := (Sl TIn) × TTh × TEv × Int
abbrev R_fq : Type := TTh
noncomputable def J_fq : Job Tryz.prog :=
  job Tryz.prog Tryz.f126 117 [(6, 3), (35, 1)] [] [] [] [sh_TTh] [] [] R_fq [] fun y => [e_TTh y]
noncomputable def S_fq : LabS :=
  lab0 Tryz.f126 4 0 X_fq (fun x => [esl_TIn x.1, e_TTh x.2.1, e_TEv x.2.2.1, (V.int .u64) x.2.2.2]) fun l => (dsl_TIn (at_ l 0), d_TTh (at_ l 1), d_TEv (at_ l 2), dI (at_ l 3))
structure X_fq_12 where
  l_0 : (Sl TIn)
  v_3 : Int
  e_6 : TEv
  m_5 : TTh
  m_8 : TTh
noncomputable def S_fq_12 : LabS :=
  labAt Tryz.f126 12 [(0, hsl_TIn), (3, .any), (5, .any), (6, .any), (8, .any)] [] [(.loc 5 0, sh_TTh), (.loc 8 0, sh_TTh)] X_fq_12 (fun x => [esl_TIn x.l_0, (V.int .u64) x.v_3, (V.ptr (.loc 5 0) []), (eVp e_TEv) x.e_6, (V.ptr (.loc 8 0) []), e_TTh x.m_5, e_TTh x.m_8]) fun l => ⟨dsl_TIn (at_ l 0), dI (at_ l 1), (dVp d_TEv) (at_ l 3), d_TTh (at_ l 5), d_TTh (at_ l 6)⟩
structure X_fq_33 where
  m_5 : TTh
  m_8 : TTh
noncomputable def S_fq_33 : LabS :=
  labAt Tryz.f126 33 [(5, .any), (8, .any)] [] [(.loc 5 0, sh_TTh), (.loc 8 0, sh_TTh)] X_fq_33 (fun x => [(V.ptr (.loc 5 0) []), (V.ptr (.loc 8 0) []), e_TTh x.m_5, e_TTh x.m_8]) fun l => ⟨d_TTh (at_ l 2), d_TTh (at_ l 3)⟩
noncomputable def tt_fq_33 (x : X_fq_33) : TT Tryz.prog R_fq :=
 (.ret (TTh.mk (IntKind.i64.wrap (x.m_5.At + 1)) 0 0 x.m_5.Status 0 x.m_5.Regs x.m_5.Seen))
theorem sd_fq_33 (x : X_fq_33) : (tt_fq_33 x).Sides :=
  TT.sR
noncomputable def D_fq_33 : Dyn X_fq_33 R_fq := .of tt_fq_33
theorem ok_fq_33 : LabOK J_fq S_fq_33 D_fq_33 :=
  lbk mxk lbn 4000 (fun x => by kernel_rfl) sd_fq_33
noncomputable def tt_fq_12 (x : X_fq_12) : TT Tryz.prog R_fq :=
 (.need (inb x.m_5.At x.l_0.n) <|
 (.ite (ieq x.e_6.Kind 2)
 (.need (inb (x.l_0.get (Int.toNat x.m_5.At)).B 8) <|
 (.jump S_fq_33 D_fq_33 (X_fq_33.mk (TTh.mk x.m_5.At x.m_5.Phase x.m_5.Ring x.m_5.Status x.m_5.Ticket (fun i1 => (cond (Nat.beq i1 (Int.toNat (x.l_0.get (Int.toNat x.m_5.At)).B)) (0 : Int) (x.m_5.Regs i1))) x.m_5.Seen) x.m_8)))
 (.ite (ieq x.e_6.Kind 4)
 (.need (inb (x.l_0.get (Int.toNat x.m_5.At)).A 8) <|
 (.need (inb (x.l_0.get (Int.toNat x.m_5.At)).B 8) <|
 (.jump S_fq_33 D_fq_33 (X_fq_33.mk (TTh.mk x.m_5.At x.m_5.Phase x.m_5.Ring x.m_5.Status x.m_5.Ticket (fun i1 => (cond (Nat.beq i1 (Int.toNat (x.l_0.get (Int.toNat x.m_5.At)).B)) (0 : Int) (cond (Nat.beq i1 (Int.toNat (x.l_0.get (Int.toNat x.m_5.At)).A)) x.v_3 (x.m_5.Regs i1)))) x.m_5.Seen) x.m_8))))
 (.ite (ieq x.e_6.Kind 5)
 (.need (inb (x.l_0.get (Int.toNat x.m_5.At)).B 8) <|
 (.jump S_fq_33 D_fq_33 (X_fq_33.mk (TTh.mk x.m_5.At x.m_5.Phase x.m_5.Ring x.m_5.Status x.m_5.Ticket (fun i1 => (cond (Nat.beq i1 (Int.toNat (x.l_0.get (Int.toNat x.m_5.At)).B)) (IntKind.u64.wrap (IntKind.i64.wrap (x.e_6.Kind - 4))) (x.m_5.Regs i1))) x.m_5.Seen) x.m_8)))
 (.ite (ieq x.e_6.Kind 6)
 (.need (inb (x.l_0.get (Int.toNat x.m_5.At)).B 8) <|
 (.jump S_fq_33 D_fq_33 (X_fq_33.mk (TTh.mk x.m_5.At x.m_5.Phase x.m_5.Ring x.m_5.Status x.m_5.Ticket (fun i1 => (cond (Nat.beq i1 (Int.toNat (x.l_0.get (Int.toNat x.m_5.At)).B)) (IntKind.u64.wrap (IntKind.i64.wrap (x.e_6.Kind - 4))) (x.m_5.Regs i1))) x.m_5.Seen) x.m_8)))
 (.ite (ieq x.e_6.Kind 7)
 (.need (inb (x.l_0.get (Int.toNat x.m_5.At)).B 8) <|
 (.jump S_fq_33 D_fq_33 (X_fq_33.mk (TTh.mk x.m_5.At x.m_5.Phase x.m_5.Ring x.m_5.Status x.m_5.Ticket (fun i1 => (cond (Nat.beq i1 (Int.toNat (x.l_0.get (Int.toNat x.m_5.At)).B)) (IntKind.u64.wrap (IntKind.i64.wrap (x.e_6.Kind - 4))) (x.m_5.Regs i1))) x.m_5.Seen) x.m_8)))
 (.ite (ieq x.e_6.Kind 8)
 (.need (inb (x.l_0.get (Int.toNat x.m_5.At)).A 8) <|
 (.jump S_fq_33 D_fq_33 (X_fq_33.mk (TTh.mk x.m_5.At x.m_5.Phase x.m_5.Ring x.m_5.Status x.m_5.Ticket (fun i1 => (cond (Nat.beq i1 (Int.toNat (x.l_0.get (Int.toNat x.m_5.At)).A)) x.e_6.Value (x.m_5.Regs i1))) x.m_5.Seen) x.m_8)))
 (.ite (ieq x.e_6.Kind 9)
 (.need (inb (x.l_0.get (Int.toNat x.m_5.At)).A 8) <|
 (.jump S_fq_33 D_fq_33 (X_fq_33.mk (TTh.mk x.m_5.At x.m_5.Phase x.m_5.Ring x.m_5.Status x.m_5.Ticket (fun i1 => (cond (Nat.beq i1 (Int.toNat (x.l_0.get (Int.toNat x.m_5.At)).A)) x.e_6.Value (x.m_5.Regs i1))) x.m_5.Seen) x.m_8)))
 (.ite (ieq x.e_6.Kind 10)
 (.need (inb (x.l_0.get (Int.toNat x.m_5.At)).A 8) <|
 (.need (inb (x.l_0.get (Int.toNat x.m_5.At)).B 8) <|
 (.jump S_fq_33 D_fq_33 (X_fq_33.mk (TTh.mk x.m_5.At x.m_5.Phase x.m_5.Ring x.m_5.Status x.m_5.Ticket (fun i1 => (cond (Nat.beq i1 (Int.toNat (x.l_0.get (Int.toNat x.m_5.At)).B)) (0 : Int) (cond (Nat.beq i1 (Int.toNat (x.l_0.get (Int.toNat x.m_5.At)).A)) x.e_6.Value (x.m_5.Regs i1)))) x.m_5.Seen) x.m_8))))
 (.ite (ieq x.e_6.Kind 11)
 (.need (inb (x.l_0.get (Int.toNat x.m_5.At)).B 8) <|
 (.jump S_fq_33 D_fq_33 (X_fq_33.mk (TTh.mk x.m_5.At x.m_5.Phase x.m_5.Ring x.m_5.Status x.m_5.Ticket (fun i1 => (cond (Nat.beq i1 (Int.toNat (x.l_0.get (Int.toNat x.m_5.At)).B)) (1 : Int) (x.m_5.Regs i1))) x.m_5.Seen) x.m_8)))
 (.ite (ieq x.e_6.Kind 12)
 (.need (true && (room ((0 : Nat) + x.m_5.Seen.n) 8)) <|
 (.need (true && (room (((0 : Nat) + x.m_5.Seen.n) + 1) 8)) <|
 (.jump S_fq_33 D_fq_33 (X_fq_33.mk (TTh.mk x.m_5.At x.m_5.Phase x.m_5.Ring x.m_5.Status x.m_5.Ticket x.m_5.Regs (Sl.mk (cond (Nat.beq 1 0) (cond (Nat.beq x.m_5.Seen.n 0) false false) false) (((0 : Nat) + x.m_5.Seen.n) + 1) (fun i1 => (cond (Nat.blt i1 ((0 : Nat) + x.m_5.Seen.n)) (cond (Nat.blt i1 0) (0 : Int) (x.m_5.Seen.get (i1 - 0))) x.e_6.Value)))) x.m_8))))
 (.jump S_fq_33 D_fq_33 (X_fq_33.mk x.m_5 x.m_8)))))))))))))
theorem sd_fq_12 (x : X_fq_12) : (tt_fq_12 x).Sides :=
  (TT.sN (TT.sI (TT.sN TT.sJ) (TT.sI (TT.sN (TT.sN TT.sJ)) (TT.sI (TT.sN TT.sJ) (TT.sI (TT.sN TT.sJ) (TT.sI (TT.sN TT.sJ) (TT.sI (TT.sN TT.sJ) (TT.sI (TT.sN TT.sJ) (TT.sI (TT.sN (TT.sN TT.sJ)) (TT.sI (TT.sN TT.sJ) (TT.sI (TT.sN (TT.sN TT.sJ)) TT.sJ)))))))))))
noncomputable def D_fq_12 : Dyn X_fq_12 R_fq := .of tt_fq_12
theorem ok_fq_12 : LabOK J_fq S_fq_12 D_fq_12 :=
  lbk mxk (lbc ok_fq_33 rfl lbn) 4000 (fun x => by kernel_rfl) sd_fq_12
noncomputable def tt_fq (x : X_fq) : TT Tryz.prog R_fq :=
 (.ite (ieq x.snd.snd.fst.Kind 1)
 (.ret (TTh.mk x.snd.fst.At (IntKind.i64.wrap (Int.tdiv (IntKind.i64.wrap (x.snd.snd.fst.Kind + 1)) 2)) x.snd.snd.fst.Ring x.snd.fst.Status x.snd.snd.fst.Ticket x.snd.fst.Regs x.snd.fst.Seen))
 (.ite (ieq x.snd.snd.fst.Kind 3)
 (.ret (TTh.mk x.snd.fst.At (IntKind.i64.wrap (Int.tdiv (IntKind.i64.wrap (x.snd.snd.fst.Kind + 1)) 2)) x.snd.snd.fst.Ring x.snd.fst.Status x.snd.snd.fst.Ticket x.snd.fst.Regs x.snd.fst.Seen))
 (.ite (ieq x.snd.snd.fst.Kind 14)
 (.ret (TTh.mk x.snd.fst.At x.snd.fst.Phase x.snd.fst.Ring (IntKind.i64.wrap (x.snd.snd.fst.Kind - 13)) x.snd.fst.Ticket x.snd.fst.Regs x.snd.fst.Seen))
 (.ite (ieq x.snd.snd.fst.Kind 15)
 (.ret (TTh.mk x.snd.fst.At x.snd.fst.Phase x.snd.fst.Ring (IntKind.i64.wrap (x.snd.snd.fst.Kind - 13)) x.snd.fst.Ticket x.snd.fst.Regs x.snd.fst.Seen))
 (.jump S_fq_12 D_fq_12 (X_fq_12.mk x.fst x.snd.snd.snd x.snd.snd.fst x.snd.fst (TTh.mk 0 0 0 0 0 (fun _i1 => (0 : Int)) (Sl.mk true 0 (fun _i1 => (0 : Int))))))))))
theorem sd_fq (x : X_fq) : (tt_fq x).Sides :=
  (TT.sI TT.sR (TT.sI TT.sR (TT.sI TT.sR (TT.sI TT.sR TT.sJ))))
noncomputable def D_fq : Dyn X_fq R_fq := .of tt_fq
noncomputable def con_fq : Con Tryz.prog :=
  mkCon 126 J_fq S_fq D_fq D_fq (fun _ _ h => h) 4 0 [hsl_TIn, sh_TTh, .any, .any] (by kernel_rfl) (by kernel_rfl) (by kernel_rfl) (lbk mxk (lbc ok_fq_33 rfl (lbc ok_fq_12 rfl lbn)) 4000 (fun x => by kernel_rfl) sd_fq) rfl rfl (fun _ => rfl) (by kernel_rfl) rfl (fun _ => rfl) (fun x y _ => by kernel_rfl)
abbrev X_fa : Type := TPg × TSt × TEv
abbrev R_fa : Type := TSt
noncomputable def J_fa : Job Tryz.prog :=
  job Tryz.prog Tryz.f74 143 [(3, 3), (5, 3), (13, 1), (52, 1), (63, 1), (73, 1), (86, 1), (96, 1), (122, 1), (140, 1)] [(17, [.open_ 11]), (18, [.shut 11, .frzT 11]), (26, [.open_ 12]), (27, [.shut 12, .frzT 12])] [] [] [sh_TSt] [] [con_f30, con_f1n, con_f3d, con_f2t, con_fq, con_fl, con_f3o] R_fa [] fun y => [e_TSt y]
noncomputable def S_fa : LabS :=
  lab0 Tryz.f74 3 0 X_fa (fun x => [e_TPg x.1, e_TSt x.2.1, e_TEv x.2.2]) fun l => (d_TPg (at_ l 0), d_TSt (at_ l 1), d_TEv (at_ l 2))
structure X_fa_16 where
  p_3 : TPg
  e_5 : TEv
  v_9 : Int
  m_4 : TSt
  m_6 : TSt
  m_7 : TTh
  m_10 : TR3
noncomputable def S_fa_16 : LabS :=
  labAt Tryz.f74 16 [(3, .any), (4, .any), (5, .any), (6, .any), (7, .any), (9, .any), (10, .any)] [] [(.loc 4 0, sh_TSt), (.loc 6 0, sh_TSt), (.loc 7 0, sh_TTh), (.loc 10 0, sh_TR3)] X_fa_16 (fun x => [(eVp e_TPg) x.p_3, (V.ptr (.loc 4 0) []), (eVp e_TEv) x.e_5, (V.ptr (.loc 6 0) []), (V.ptr (.loc 7 0) []), (V.int .u64) x.v_9, (V.ptr (.loc 10 0) []), e_TSt x.m_4, e_TSt x.m_6, e_TTh x.m_7, e_TR3 x.m_10]) fun l => ⟨(dVp d_TPg) (at_ l 0), (dVp d_TEv) (at_ l 2), dI (at_ l 5), d_TSt (at_ l 7), d_TSt (at_ l 8), d_TTh (at_ l 9), d_TR3 (at_ l 10)⟩
structure X_fa_19 where
  p_3 : TPg
  e_5 : TEv
  v_9 : Int
  m_4 : TSt
  m_6 : TSt
  m_7 : TTh
noncomputable def S_fa_19 : LabS :=
  labAt Tryz.f74 19 [(3, .any), (4, .any), (5, .any), (6, .any), (7, .any), (9, .any)] [] [(.loc 4 0, sh_TSt), (.loc 6 0, sh_TSt), (.loc 7 0, sh_TTh)] X_fa_19 (fun x => [(eVp e_TPg) x.p_3, (V.ptr (.loc 4 0) []), (eVp e_TEv) x.e_5, (V.ptr (.loc 6 0) []), (V.ptr (.loc 7 0) []), (V.int .u64) x.v_9, e_TSt x.m_4, e_TSt x.m_6, e_TTh x.m_7]) fun l => ⟨(dVp d_TPg) (at_ l 0), (dVp d_TEv) (at_ l 2), dI (at_ l 5), d_TSt (at_ l 6), d_TSt (at_ l 7), d_TTh (at_ l 8)⟩
structure X_fa_21 where
  p_3 : TPg
  e_5 : TEv
  v_9 : Int
  m_4 : TSt
  m_6 : TSt
  m_7 : TTh
noncomputable def S_fa_21 : LabS :=
  labAt Tryz.f74 21 [(3, .any), (4, .any), (5, .any), (6, .any), (7, .any), (9, .any)] [] [(.loc 4 0, sh_TSt), (.loc 6 0, sh_TSt), (.loc 7 0, sh_TTh)] X_fa_21 (fun x => [(eVp e_TPg) x.p_3, (V.ptr (.loc 4 0) []), (eVp e_TEv) x.e_5, (V.ptr (.loc 6 0) []), (V.ptr (.loc 7 0) []), (V.int .u64) x.v_9, e_TSt x.m_4, e_TSt x.m_6, e_TTh x.m_7]) fun l => ⟨(dVp d_TPg) (at_ l 0), (dVp d_TEv) (at_ l 2), dI (at_ l 5), d_TSt (at_ l 6), d_TSt (at_ l 7), d_TTh (at_ l 8)⟩
structure X_fa_23 where
  p_3 : TPg
  e_5 : TEv
  v_9 : Int
  m_4 : TSt
  m_6 : TSt
  m_7 : TTh
noncomputable def S_fa_23 : LabS :=
  labAt Tryz.f74 23 [(3, .any), (4, .any), (5, .any), (6, .any), (7, .any), (9, .any)] [] [(.loc 4 0, sh_TSt), (.loc 6 0, sh_TSt), (.loc 7 0, sh_TTh)] X_fa_23 (fun x => [(eVp e_TPg) x.p_3, (V.ptr (.loc 4 0) []), (eVp e_TEv) x.e_5, (V.ptr (.loc 6 0) []), (V.ptr (.loc 7 0) []), (V.int .u64) x.v_9, e_TSt x.m_4, e_TSt x.m_6, e_TTh x.m_7]) fun l => ⟨(dVp d_TPg) (at_ l 0), (dVp d_TEv) (at_ l 2), dI (at_ l 5), d_TSt (at_ l 6), d_TSt (at_ l 7), d_TTh (at_ l 8)⟩
structure X_fa_25 where
  p_3 : TPg
  e_5 : TEv
  v_9 : Int
  m_4 : TSt
  m_6 : TSt
  m_7 : TTh
noncomputable def S_fa_25 : LabS :=
  labAt Tryz.f74 25 [(3, .any), (4, .any), (5, .any), (6, .any), (7, .any), (9, .any)] [] [(.loc 4 0, sh_TSt), (.loc 6 0, sh_TSt), (.loc 7 0, sh_TTh)] X_fa_25 (fun x => [(eVp e_TPg) x.p_3, (V.ptr (.loc 4 0) []), (eVp e_TEv) x.e_5, (V.ptr (.loc 6 0) []), (V.ptr (.loc 7 0) []), (V.int .u64) x.v_9, e_TSt x.m_4, e_TSt x.m_6, e_TTh x.m_7]) fun l => ⟨(dVp d_TPg) (at_ l 0), (dVp d_TEv) (at_ l 2), dI (at_ l 5), d_TSt (at_ l 6), d_TSt (at_ l 7), d_TTh (at_ l 8)⟩
noncomputable def tt_fa_25 (x : X_fa_25) : TT Tryz.prog R_fa :=
 (.need (true && (room ((0 : Nat) + x.m_4.Threads.n) 128)) <|
 (.need (inb x.e_5.Thread x.p_3.Threads.n) <|
 (.call con_fq ((x.p_3.Threads.get (Int.toNat x.e_5.Thread)), (x.m_7, (x.e_5, x.v_9))) fun (y1 : R_fq) =>
 (.need (inb x.e_5.Thread ((0 : Nat) + x.m_4.Threads.n)) <|
 (.need ((Nat.beq ((0 : Nat) + x.m_4.Threads.n) ((0 : Nat) + x.m_4.Threads.n)) && true) <|
 (.need (Nat.beq ((0 : Nat) + x.m_4.Threads.n) ((0 : Nat) + x.m_4.Threads.n)) <|
 (.side (∀ i2 : Nat, ((i2 < ((0 : Nat) + x.m_4.Threads.n)) → ((true && (true && (true && (true && (true && ((true && (true && (true && (true && (true && (true && (true && (true && true)))))))) && (true && true))))))) = true))) <|
 (.ret (TSt.mk (Sl.mk (cond (Nat.beq x.m_4.Threads.n 0) false false) ((0 : Nat) + x.m_4.Threads.n) (fun i2 => (TTh.mk (cond (Nat.beq i2 ((0 : Nat) + (Int.toNat x.e_5.Thread))) y1.At (cond (Nat.blt i2 0) (0 : Int) (x.m_4.Threads.get (i2 - 0)).At)) (cond (Nat.beq i2 ((0 : Nat) + (Int.toNat x.e_5.Thread))) y1.Phase (cond (Nat.blt i2 0) (0 : Int) (x.m_4.Threads.get (i2 - 0)).Phase)) (cond (Nat.beq i2 ((0 : Nat) + (Int.toNat x.e_5.Thread))) y1.Ring (cond (Nat.blt i2 0) (0 : Int) (x.m_4.Threads.get (i2 - 0)).Ring)) (cond (Nat.beq i2 ((0 : Nat) + (Int.toNat x.e_5.Thread))) y1.Status (cond (Nat.blt i2 0) (0 : Int) (x.m_4.Threads.get (i2 - 0)).Status)) (cond (Nat.beq i2 ((0 : Nat) + (Int.toNat x.e_5.Thread))) y1.Ticket (cond (Nat.blt i2 0) (0 : Int) (x.m_4.Threads.get (i2 - 0)).Ticket)) (fun i3 => (cond (Nat.beq i2 ((0 : Nat) + (Int.toNat x.e_5.Thread))) (y1.Regs i3) (cond (Nat.blt i2 0) (0 : Int) ((x.m_4.Threads.get (i2 - 0)).Regs i3)))) (Sl.mk (cond (Nat.beq i2 ((0 : Nat) + (Int.toNat x.e_5.Thread))) y1.Seen.nil (cond (Nat.blt i2 0) true (x.m_4.Threads.get (i2 - 0)).Seen.nil)) (cond (Nat.beq i2 ((0 : Nat) + (Int.toNat x.e_5.Thread))) y1.Seen.n (cond (Nat.blt i2 0) (0 : Nat) (x.m_4.Threads.get (i2 - 0)).Seen.n)) (fun i3 => (cond (Nat.beq i2 ((0 : Nat) + (Int.toNat x.e_5.Thread))) (y1.Seen.get i3) (cond (Nat.blt i2 0) (0 : Int) ((x.m_4.Threads.get (i2 - 0)).Seen.get i3)))))))) x.m_4.Rings x.m_4.Now x.m_4.Reads x.m_4.Ended)))))))))
theorem sd_fa_25 (x : X_fa_25) : (tt_fa_25 x).Sides :=
  (TT.sN (TT.sN (TT.sC fun _ => (TT.sN (TT.sN (TT.sN (TT.sS (fun _ _ => rfl) TT.sR)))))))
noncomputable def D_fa_25 : Dyn X_fa_25 R_fa := .of tt_fa_25
theorem ok_fa_25 : LabOK J_fa S_fa_25 D_fa_25 :=
  lbk mxk lbn 4000 (fun x => by kernel_rfl) sd_fa_25
noncomputable def tt_fa_23 (x : X_fa_23) : TT Tryz.prog R_fa :=
 (.ite (ieq x.e_5.Kind 11)
 (.jump S_fa_25 D_fa_25 (X_fa_25.mk x.p_3 x.e_5 x.v_9 (TSt.mk x.m_4.Threads x.m_4.Rings x.m_4.Now x.m_4.Reads true) x.m_6 x.m_7))
 (.jump S_fa_25 D_fa_25 (X_fa_25.mk x.p_3 x.e_5 x.v_9 x.m_4 x.m_6 x.m_7)))
theorem sd_fa_23 (x : X_fa_23) : (tt_fa_23 x).Sides :=
  (TT.sI TT.sJ TT.sJ)
noncomputable def D_fa_23 : Dyn X_fa_23 R_fa := .of tt_fa_23
theorem ok_fa_23 : LabOK J_fa S_fa_23 D_fa_23 :=
  lbk mxk (lbc ok_fa_25 rfl lbn) 4000 (fun x => by kernel_rfl) sd_fa_23
noncomputable def tt_fa_21 (x : X_fa_21) : TT Tryz.prog R_fa :=
 (.ite (ieq x.e_5.Kind 10)
 (.jump S_fa_23 D_fa_23 (X_fa_23.mk x.p_3 x.e_5 x.v_9 (TSt.mk x.m_4.Threads x.m_4.Rings x.m_4.Now (IntKind.u64.wrap (x.m_4.Reads + 1)) x.m_4.Ended) x.m_6 x.m_7))
 (.jump S_fa_23 D_fa_23 (X_fa_23.mk x.p_3 x.e_5 x.v_9 x.m_4 x.m_6 x.m_7)))
theorem sd_fa_21 (x : X_fa_21) : (tt_fa_21 x).Sides :=
  (TT.sI TT.sJ TT.sJ)
noncomputable def D_fa_21 : Dyn X_fa_21 R_fa := .of tt_fa_21
theorem ok_fa_21 : LabOK J_fa S_fa_21 D_fa_21 :=
  lbk mxk (lbc ok_fa_25 rfl (lbc ok_fa_23 rfl lbn)) 4000 (fun x => by kernel_rfl) sd_fa_21
noncomputable def tt_fa_19 (x : X_fa_19) : TT Tryz.prog R_fa :=
 (.ite (ieq x.e_5.Kind 8)
 (.ite (ilt x.m_4.Now x.e_5.Value)
 (.jump S_fa_21 D_fa_21 (X_fa_21.mk x.p_3 x.e_5 x.v_9 (TSt.mk x.m_4.Threads x.m_4.Rings x.e_5.Value x.m_4.Reads x.m_4.Ended) x.m_6 x.m_7))
 (.jump S_fa_21 D_fa_21 (X_fa_21.mk x.p_3 x.e_5 x.v_9 x.m_4 x.m_6 x.m_7)))
 (.jump S_fa_21 D_fa_21 (X_fa_21.mk x.p_3 x.e_5 x.v_9 x.m_4 x.m_6 x.m_7)))
theorem sd_fa_19 (x : X_fa_19) : (tt_fa_19 x).Sides :=
  (TT.sI (TT.sI TT.sJ TT.sJ) TT.sJ)
noncomputable def D_fa_19 : Dyn X_fa_19 R_fa := .of tt_fa_19
theorem ok_fa_19 : LabOK J_fa S_fa_19 D_fa_19 :=
  lbk mxk (lbc ok_fa_25 rfl (lbc ok_fa_23 rfl (lbc ok_fa_21 rfl lbn))) 4000 (fun x => by kernel_rfl) sd_fa_19
noncomputable def tt_fa_16 (x : X_fa_16) : TT Tryz.prog R_fa :=
 (.need (true && (room ((0 : Nat) + x.m_4.Rings.n) 64)) <|
 (.call con_f3d x.m_10 fun (y1 : R_f3d) =>
 (.need (inb x.e_5.Ring ((0 : Nat) + x.m_4.Rings.n)) <|
 (.need ((Nat.beq ((0 : Nat) + x.m_4.Rings.n) ((0 : Nat) + x.m_4.Rings.n)) && true) <|
 (.need (Nat.beq ((0 : Nat) + x.m_4.Rings.n) ((0 : Nat) + x.m_4.Rings.n)) <|
 (.side (∀ i2 : Nat, ((i2 < ((0 : Nat) + x.m_4.Rings.n)) → ((true && (true && (true && (true && true)))) = true))) <|
 (.jump S_fa_19 D_fa_19 (X_fa_19.mk x.p_3 x.e_5 x.v_9 (TSt.mk x.m_4.Threads (Sl.mk (cond (Nat.beq x.m_4.Rings.n 0) false false) ((0 : Nat) + x.m_4.Rings.n) (fun i2 => (TRs.mk (cond (Nat.beq i2 ((0 : Nat) + (Int.toNat x.e_5.Ring))) y1.Tail (cond (Nat.blt i2 0) (0 : Int) (x.m_4.Rings.get (i2 - 0)).Tail)) (Sl.mk (cond (Nat.beq i2 ((0 : Nat) + (Int.toNat x.e_5.Ring))) y1.Heads.nil (cond (Nat.blt i2 0) true (x.m_4.Rings.get (i2 - 0)).Heads.nil)) (cond (Nat.beq i2 ((0 : Nat) + (Int.toNat x.e_5.Ring))) y1.Heads.n (cond (Nat.blt i2 0) (0 : Nat) (x.m_4.Rings.get (i2 - 0)).Heads.n)) (fun i3 => (cond (Nat.beq i2 ((0 : Nat) + (Int.toNat x.e_5.Ring))) (y1.Heads.get i3) (cond (Nat.blt i2 0) (0 : Int) ((x.m_4.Rings.get (i2 - 0)).Heads.get i3))))) (cond (Nat.beq i2 ((0 : Nat) + (Int.toNat x.e_5.Ring))) y1.Closed (cond (Nat.blt i2 0) false (x.m_4.Rings.get (i2 - 0)).Closed)) (Sl.mk (cond (Nat.beq i2 ((0 : Nat) + (Int.toNat x.e_5.Ring))) y1.Slots.nil (cond (Nat.blt i2 0) true (x.m_4.Rings.get (i2 - 0)).Slots.nil)) (cond (Nat.beq i2 ((0 : Nat) + (Int.toNat x.e_5.Ring))) y1.Slots.n (cond (Nat.blt i2 0) (0 : Nat) (x.m_4.Rings.get (i2 - 0)).Slots.n)) (fun i3 => (TSo.mk (cond (Nat.beq i2 ((0 : Nat) + (Int.toNat x.e_5.Ring))) (y1.Slots.get i3).Stamp (cond (Nat.blt i2 0) (0 : Int) ((x.m_4.Rings.get (i2 - 0)).Slots.get i3).Stamp)) (cond (Nat.beq i2 ((0 : Nat) + (Int.toNat x.e_5.Ring))) (y1.Slots.get i3).Value (cond (Nat.blt i2 0) (0 : Int) ((x.m_4.Rings.get (i2 - 0)).Slots.get i3).Value)) (cond (Nat.beq i2 ((0 : Nat) + (Int.toNat x.e_5.Ring))) (y1.Slots.get i3).Left (cond (Nat.blt i2 0) (0 : Int) ((x.m_4.Rings.get (i2 - 0)).Slots.get i3).Left)))))))) x.m_4.Now x.m_4.Reads x.m_4.Ended) x.m_6 x.m_7))))))))
theorem sd_fa_16 (x : X_fa_16) : (tt_fa_16 x).Sides :=
  (TT.sN (TT.sC fun _ => (TT.sN (TT.sN (TT.sN (TT.sS (fun _ _ => rfl) TT.sJ))))))
noncomputable def D_fa_16 : Dyn X_fa_16 R_fa := .of tt_fa_16
theorem ok_fa_16 : LabOK J_fa S_fa_16 D_fa_16 :=
  lbk mxk (lbc ok_fa_25 rfl (lbc ok_fa_23 rfl (lbc ok_fa_21 rfl (lbc ok_fa_19 rfl lbn)))) 4000 (fun x => by kernel_rfl) sd_fa_16
noncomputable def tt_fa (x : X_fa) : TT Tryz.prog R_fa :=
 (.need (inb x.snd.snd.Thread x.fst.Threads.n) <|
 (.need (inb x.snd.snd.Thread x.snd.fst.Threads.n) <|
 (.call con_fl ((x.fst.Threads.get (Int.toNat x.snd.snd.Thread)), (x.snd.fst.Threads.get (Int.toNat x.snd.snd.Thread))) fun (y1 : R_fl) =>
 (.ite (ile x.snd.snd.Kind 4)
 (.call con_f3o (x.fst, (x.snd.fst, x.snd.snd.Ring)) fun (y2 : R_f3o) =>
 (.ite (ieq x.snd.snd.Kind 1)
 (.jump S_fa_16 D_fa_16 (X_fa_16.mk x.fst x.snd.snd 0 x.snd.fst (TSt.mk (Sl.mk true 0 (fun _i3 => (TTh.mk 0 0 0 0 0 (fun _i4 => (0 : Int)) (Sl.mk true 0 (fun _i4 => (0 : Int)))))) (Sl.mk true 0 (fun _i3 => (TRs.mk 0 (Sl.mk true 0 (fun _i4 => (0 : Int))) false (Sl.mk true 0 (fun _i4 => (TSo.mk 0 0 0)))))) 0 0 false) y1.fst (TR3.mk y2.Cap (IntKind.u64.wrap (y2.Tail + 1)) y2.Heads y2.Closed y2.S)))
 (.ite (ieq x.snd.snd.Kind 2)
 (.call con_f30 (y2, (x.snd.snd.Ticket, y1.snd.Value)) fun (y3 : R_f30) =>
 (.jump S_fa_16 D_fa_16 (X_fa_16.mk x.fst x.snd.snd 0 x.snd.fst (TSt.mk (Sl.mk true 0 (fun _i4 => (TTh.mk 0 0 0 0 0 (fun _i5 => (0 : Int)) (Sl.mk true 0 (fun _i5 => (0 : Int)))))) (Sl.mk true 0 (fun _i4 => (TRs.mk 0 (Sl.mk true 0 (fun _i5 => (0 : Int))) false (Sl.mk true 0 (fun _i5 => (TSo.mk 0 0 0)))))) 0 0 false) y1.fst y3.snd)))
 (.ite (ieq x.snd.snd.Kind 3)
 (.call con_f2t (y2, y1.snd.Reader) fun (y3 : R_f2t) =>
 (.jump S_fa_16 D_fa_16 (X_fa_16.mk x.fst x.snd.snd 0 x.snd.fst (TSt.mk (Sl.mk true 0 (fun _i4 => (TTh.mk 0 0 0 0 0 (fun _i5 => (0 : Int)) (Sl.mk true 0 (fun _i5 => (0 : Int)))))) (Sl.mk true 0 (fun _i4 => (TRs.mk 0 (Sl.mk true 0 (fun _i5 => (0 : Int))) false (Sl.mk true 0 (fun _i5 => (TSo.mk 0 0 0)))))) 0 0 false) y1.fst y3.snd.snd)))
 (.ite (ieq x.snd.snd.Kind 4)
 (.call con_f1n (y2, (y1.snd.Reader, x.snd.snd.Ticket)) fun (y3 : R_f1n) =>
 (.jump S_fa_16 D_fa_16 (X_fa_16.mk x.fst x.snd.snd y3.fst x.snd.fst (TSt.mk (Sl.mk true 0 (fun _i4 => (TTh.mk 0 0 0 0 0 (fun _i5 => (0 : Int)) (Sl.mk true 0 (fun _i5 => (0 : Int)))))) (Sl.mk true 0 (fun _i4 => (TRs.mk 0 (Sl.mk true 0 (fun _i5 => (0 : Int))) false (Sl.mk true 0 (fun _i5 => (TSo.mk 0 0 0)))))) 0 0 false) y1.fst y3.snd.snd)))
 (.ite (ieq x.snd.snd.Kind 13)
 (.jump S_fa_16 D_fa_16 (X_fa_16.mk x.fst x.snd.snd 0 x.snd.fst (TSt.mk (Sl.mk true 0 (fun _i3 => (TTh.mk 0 0 0 0 0 (fun _i4 => (0 : Int)) (Sl.mk true 0 (fun _i4 => (0 : Int)))))) (Sl.mk true 0 (fun _i3 => (TRs.mk 0 (Sl.mk true 0 (fun _i4 => (0 : Int))) false (Sl.mk true 0 (fun _i4 => (TSo.mk 0 0 0)))))) 0 0 false) y1.fst (TR3.mk y2.Cap y2.Tail y2.Heads true y2.S)))
 (.jump S_fa_16 D_fa_16 (X_fa_16.mk x.fst x.snd.snd 0 x.snd.fst (TSt.mk (Sl.mk true 0 (fun _i3 => (TTh.mk 0 0 0 0 0 (fun _i4 => (0 : Int)) (Sl.mk true 0 (fun _i4 => (0 : Int)))))) (Sl.mk true 0 (fun _i3 => (TRs.mk 0 (Sl.mk true 0 (fun _i4 => (0 : Int))) false (Sl.mk true 0 (fun _i4 => (TSo.mk 0 0 0)))))) 0 0 false) y1.fst y2))))))))
 (.ite (ieq x.snd.snd.Kind 13)
 (.call con_f3o (x.fst, (x.snd.fst, x.snd.snd.Ring)) fun (y2 : R_f3o) =>
 (.ite (ieq x.snd.snd.Kind 1)
 (.jump S_fa_16 D_fa_16 (X_fa_16.mk x.fst x.snd.snd 0 x.snd.fst (TSt.mk (Sl.mk true 0 (fun _i3 => (TTh.mk 0 0 0 0 0 (fun _i4 => (0 : Int)) (Sl.mk true 0 (fun _i4 => (0 : Int)))))) (Sl.mk true 0 (fun _i3 => (TRs.mk 0 (Sl.mk true 0 (fun _i4 => (0 : Int))) false (Sl.mk true 0 (fun _i4 => (TSo.mk 0 0 0)))))) 0 0 false) y1.fst (TR3.mk y2.Cap (IntKind.u64.wrap (y2.Tail + 1)) y2.Heads y2.Closed y2.S)))
 (.ite (ieq x.snd.snd.Kind 2)
 (.call con_f30 (y2, (x.snd.snd.Ticket, y1.snd.Value)) fun (y3 : R_f30) =>
 (.jump S_fa_16 D_fa_16 (X_fa_16.mk x.fst x.snd.snd 0 x.snd.fst (TSt.mk (Sl.mk true 0 (fun _i4 => (TTh.mk 0 0 0 0 0 (fun _i5 => (0 : Int)) (Sl.mk true 0 (fun _i5 => (0 : Int)))))) (Sl.mk true 0 (fun _i4 => (TRs.mk 0 (Sl.mk true 0 (fun _i5 => (0 : Int))) false (Sl.mk true 0 (fun _i5 => (TSo.mk 0 0 0)))))) 0 0 false) y1.fst y3.snd)))
 (.ite (ieq x.snd.snd.Kind 3)
 (.call con_f2t (y2, y1.snd.Reader) fun (y3 : R_f2t) =>
 (.jump S_fa_16 D_fa_16 (X_fa_16.mk x.fst x.snd.snd 0 x.snd.fst (TSt.mk (Sl.mk true 0 (fun _i4 => (TTh.mk 0 0 0 0 0 (fun _i5 => (0 : Int)) (Sl.mk true 0 (fun _i5 => (0 : Int)))))) (Sl.mk true 0 (fun _i4 => (TRs.mk 0 (Sl.mk true 0 (fun _i5 => (0 : Int))) false (Sl.mk true 0 (fun _i5 => (TSo.mk 0 0 0)))))) 0 0 false) y1.fst y3.snd.snd)))
 (.ite (ieq x.snd.snd.Kind 4)
 (.call con_f1n (y2, (y1.snd.Reader, x.snd.snd.Ticket)) fun (y3 : R_f1n) =>
 (.jump S_fa_16 D_fa_16 (X_fa_16.mk x.fst x.snd.snd y3.fst x.snd.fst (TSt.mk (Sl.mk true 0 (fun _i4 => (TTh.mk 0 0 0 0 0 (fun _i5 => (0 : Int)) (Sl.mk true 0 (fun _i5 => (0 : Int)))))) (Sl.mk true 0 (fun _i4 => (TRs.mk 0 (Sl.mk true 0 (fun _i5 => (0 : Int))) false (Sl.mk true 0 (fun _i5 => (TSo.mk 0 0 0)))))) 0 0 false) y1.fst y3.snd.snd)))
 (.ite (ieq x.snd.snd.Kind 13)
 (.jump S_fa_16 D_fa_16 (X_fa_16.mk x.fst x.snd.snd 0 x.snd.fst (TSt.mk (Sl.mk true 0 (fun _i3 => (TTh.mk 0 0 0 0 0 (fun _i4 => (0 : Int)) (Sl.mk true 0 (fun _i4 => (0 : Int)))))) (Sl.mk true 0 (fun _i3 => (TRs.mk 0 (Sl.mk true 0 (fun _i4 => (0 : Int))) false (Sl.mk true 0 (fun _i4 => (TSo.mk 0 0 0)))))) 0 0 false) y1.fst (TR3.mk y2.Cap y2.Tail y2.Heads true y2.S)))
 (.jump S_fa_16 D_fa_16 (X_fa_16.mk x.fst x.snd.snd 0 x.snd.fst (TSt.mk (Sl.mk true 0 (fun _i3 => (TTh.mk 0 0 0 0 0 (fun _i4 => (0 : Int)) (Sl.mk true 0 (fun _i4 => (0 : Int)))))) (Sl.mk true 0 (fun _i3 => (TRs.mk 0 (Sl.mk true 0 (fun _i4 => (0 : Int))) false (Sl.mk true 0 (fun _i4 => (TSo.mk 0 0 0)))))) 0 0 false) y1.fst y2))))))))
 (.jump S_fa_19 D_fa_19 (X_fa_19.mk x.fst x.snd.snd 0 x.snd.fst (TSt.mk (Sl.mk true 0 (fun _i2 => (TTh.mk 0 0 0 0 0 (fun _i3 => (0 : Int)) (Sl.mk true 0 (fun _i3 => (0 : Int)))))) (Sl.mk true 0 (fun _i2 => (TRs.mk 0 (Sl.mk true 0 (fun _i3 => (0 : Int))) false (Sl.mk true 0 (fun _i3 => (TSo.mk 0 0 0)))))) 0 0 false) y1.fst)))))))
theorem sd_fa (x : X_fa) : (tt_fa x).Sides :=
  (TT.sN (TT.sN (TT.sC fun _ => (TT.sI (TT.sC fun _ => (TT.sI TT.sJ (TT.sI (TT.sC fun _ => TT.sJ) (TT.sI (TT.sC fun _ => TT.sJ) (TT.sI (TT.sC fun _ => TT.sJ) (TT.sI TT.sJ TT.sJ)))))) (TT.sI (TT.sC fun _ => (TT.sI TT.sJ (TT.sI (TT.sC fun _ => TT.sJ) (TT.sI (TT.sC fun _ => TT.sJ) (TT.sI (TT.sC fun _ => TT.sJ) (TT.sI TT.sJ TT.sJ)))))) TT.sJ)))))
noncomputable def D_fa : Dyn X_fa R_fa := .of tt_fa
noncomputable def con_fa : Con Tryz.prog :=
  mkCon 74 J_fa S_fa D_fa D_fa (fun _ _ h => h) 3 0 [sh_TPg, sh_TSt, .any] (by kernel_rfl) (by kernel_rfl) (by kernel_rfl) (lbk mxk (lbc ok_fa_25 rfl (lbc ok_fa_23 rfl (lbc ok_fa_21 rfl (lbc ok_fa_19 rfl (lbc ok_fa_16 rfl lbn))))) 4000 (fun x => by kernel_rfl) sd_fa) rfl rfl (fun _ => rfl) (by kernel_rfl) rfl (fun _ => rfl) (fun x y _ => by kernel_rfl)
abbrev X_f2e : Type := TPg × TSt × TEv
abbrev R_f2e : Type := Int × TSt
noncomputable def J_f2e : Job Tryz.prog :=
  job Tryz.prog Tryz.f33 42 [(3, 3), (4, 3), (5, 3)] [] [] [] [.any, sh_TSt] [] [con_f3n, con_f42, con_fa, con_f3p] R_f2e [] fun y => [V.tup (V.cons ((V.int .i64) y.1) (V.cons (e_TSt y.2) (V.unit)))]
noncomputable def S_f2e : LabS :=
  lab0 Tryz.f33 3 0 X_f2e (fun x => [e_TPg x.1, e_TSt x.2.1, e_TEv x.2.2]) fun l => (d_TPg (at_ l 0), d_TSt (at_ l 1), d_TEv (at_ l 2))
structure X_f2e_6 where
  p_3 : TPg
  s_4 : TSt
  e_5 : TEv
  m_7 : TSt
noncomputable def S_f2e_6 : LabS :=
  labAt Tryz.f33 6 [(3, .any), (4, .any), (5, .any), (7, .any)] [] [(.loc 7 0, sh_TSt)] X_f2e_6 (fun x => [(eVp e_TPg) x.p_3, (eVp e_TSt) x.s_4, (eVp e_TEv) x.e_5, (V.ptr (.loc 7 0) []), e_TSt x.m_7]) fun l => ⟨(dVp d_TPg) (at_ l 0), (dVp d_TSt) (at_ l 1), (dVp d_TEv) (at_ l 2), d_TSt (at_ l 4)⟩
noncomputable def tt_f2e_6 (x : X_f2e_6) : TT Tryz.prog R_f2e :=
 (.call con_fa (x.p_3, (x.s_4, x.e_5)) fun (y1 : R_fa) =>
 (.ret (0, y1)))
theorem sd_f2e_6 (x : X_f2e_6) : (tt_f2e_6 x).Sides :=
  (TT.sC fun _ => TT.sR)
noncomputable def D_f2e_6 : Dyn X_f2e_6 R_f2e := .of tt_f2e_6
theorem ok_f2e_6 : LabOK J_f2e S_f2e_6 D_f2e_6 :=
  lbk mxk lbn 4000 (fun x => by kernel_rfl) sd_f2e_6
noncomputable def tt_f2e (x : X_f2e) : TT Tryz.prog R_f2e :=
 (.call con_f42 (x.fst, (x.snd.fst, x.snd.snd)) fun (y1 : R_f42) =>
 (.ite (!(ieq y1 0))
 (.ret (y1, x.snd.fst))
 (.ite (ile x.snd.snd.Kind 4)
 (.call con_f3n (x.fst, (x.snd.fst, x.snd.snd.Thread)) fun (y2 : R_f3n) =>
 (.call con_f3p (x.fst, (x.snd.fst, (y2, (x.snd.snd, false)))) fun (y3 : R_f3p) =>
 (.ite (!y3)
 (.ret (8, x.snd.fst))
 (.jump S_f2e_6 D_f2e_6 (X_f2e_6.mk x.fst x.snd.fst x.snd.snd (TSt.mk (Sl.mk true 0 (fun _i4 => (TTh.mk 0 0 0 0 0 (fun _i5 => (0 : Int)) (Sl.mk true 0 (fun _i5 => (0 : Int)))))) (Sl.mk true 0 (fun _i4 => (TRs.mk 0 (Sl.mk true 0 (fun _i5 => (0 : Int))) false (Sl.mk true 0 (fun _i5 => (TSo.mk 0 0 0)))))) 0 0 false))))))
 (.ite (ieq x.snd.snd.Kind 13)
 (.call con_f3n (x.fst, (x.snd.fst, x.snd.snd.Thread)) fun (y2 : R_f3n) =>
 (.call con_f3p (x.fst, (x.snd.fst, (y2, (x.snd.snd, false)))) fun (y3 : R_f3p) =>
 (.ite (!y3)
 (.ret (8, x.snd.fst))
 (.jump S_f2e_6 D_f2e_6 (X_f2e_6.mk x.fst x.snd.fst x.snd.snd (TSt.mk (Sl.mk true 0 (fun _i4 => (TTh.mk 0 0 0 0 0 (fun _i5 => (0 : Int)) (Sl.mk true 0 (fun _i5 => (0 : Int)))))) (Sl.mk true 0 (fun _i4 => (TRs.mk 0 (Sl.mk true 0 (fun _i5 => (0 : Int))) false (Sl.mk true 0 (fun _i5 => (TSo.mk 0 0 0)))))) 0 0 false))))))
 (.jump S_f2e_6 D_f2e_6 (X_f2e_6.mk x.fst x.snd.fst x.snd.snd (TSt.mk (Sl.mk true 0 (fun _i2 => (TTh.mk 0 0 0 0 0 (fun _i3 => (0 : Int)) (Sl.mk true 0 (fun _i3 => (0 : Int)))))) (Sl.mk true 0 (fun _i2 => (TRs.mk 0 (Sl.mk true 0 (fun _i3 => (0 : Int))) false (Sl.mk true 0 (fun _i3 => (TSo.mk 0 0 0)))))) 0 0 false)))))))
theorem sd_f2e (x : X_f2e) : (tt_f2e x).Sides :=
  (TT.sC fun _ => (TT.sI TT.sR (TT.sI (TT.sC fun _ => (TT.sC fun _ => (TT.sI TT.sR TT.sJ))) (TT.sI (TT.sC fun _ => (TT.sC fun _ => (TT.sI TT.sR TT.sJ))) TT.sJ))))
noncomputable def D_f2e : Dyn X_f2e R_f2e := .of tt_f2e
noncomputable def con_f2e : Con Tryz.prog :=
  mkCon 33 J_f2e S_f2e D_f2e D_f2e (fun _ _ h => h) 3 0 [sh_TPg, sh_TSt, .any] (by kernel_rfl) (by kernel_rfl) (by kernel_rfl) (lbk mxk (lbc ok_f2e_6 rfl lbn) 4000 (fun x => by kernel_rfl) sd_f2e) rfl rfl (fun _ => rfl) (by kernel_rfl) rfl (fun _ => rfl) (fun x y _ => by kernel_rfl)
abbrev X_f23 : Type := (Sl Int) × (Sl Int)
abbrev R_f23 : Type := Bool
noncomputable def J_f23 : Job Tryz.prog :=
  job Tryz.prog Tryz.f25 26 [] [] [] [] [.any] [] [] R_f23 [] fun y => [V.bool y]
noncomputable def S_f23 : LabS :=
  lab0 Tryz.f25 2 0 X_f23 (fun x => [esl_u64 x.1, esl_u64 x.2]) fun l => (dsl_u64 (at_ l 0), dsl_u64 (at_ l 1))
structure X_f23_4 where
  a_0 : (Sl Int)
  b_1 : (Sl Int)
  i_5 : Int
noncomputable def S_f23_4 : LabS :=
  labAt Tryz.f25 4 [(0, hsl_u64), (1, hsl_u64), (5, .any)] [] [] X_f23_4 (fun x => [esl_u64 x.a_0, esl_u64 x.b_1, (V.int .i64) x.i_5]) fun l => ⟨dsl_u64 (at_ l 0), dsl_u64 (at_ l 1), dI (at_ l 2)⟩
noncomputable def tt_f23_4 (D_f23_4 : Dyn X_f23_4 R_f23) (x : X_f23_4) : TT Tryz.prog R_f23 :=
 (.ite (ilt x.i_5 ((x.a_0.n : Nat) : Int))
 (.need (inb x.i_5 x.a_0.n) <|
 (.need (inb x.i_5 x.b_1.n) <|
 (.ite (!(ieq (x.a_0.get (Int.toNat x.i_5)) (x.b_1.get (Int.toNat x.i_5))))
 (.ret false)
 (.jump S_f23_4 D_f23_4 (X_f23_4.mk x.a_0 x.b_1 (IntKind.i64.wrap (x.i_5 + 1)))))))
 (.ret true))
theorem sd_f23_4 (D_f23_4 : Dyn X_f23_4 R_f23) (x : X_f23_4) : (tt_f23_4 D_f23_4 x).Sides :=
  (TT.sI (TT.sN (TT.sN (TT.sI TT.sR TT.sJ))) TT.sR)
noncomputable def D_f23_4 : Dyn X_f23_4 R_f23 := Dyn.loop tt_f23_4
theorem ok_f23_4 : LabOK J_f23 S_f23_4 D_f23_4 :=
  loop_ok fun D_f23_4 h_4 => lbk mxk (lbc h_4 rfl lbn) 4000 (fun x => by kernel_rfl) (sd_f23_4 D_f23_4)
noncomputable def tt_f23 (x : X_f23) : TT Tryz.prog R_f23 :=
 (.ite (!(ieq ((x.fst.n : Nat) : Int) ((x.snd.n : Nat) : Int)))
 (.ret false)
 (.jump S_f23_4 D_f23_4 (X_f23_4.mk x.fst x.snd 0)))
theorem sd_f23 (x : X_f23) : (tt_f23 x).Sides :=
  (TT.sI TT.sR TT.sJ)
noncomputable def D_f23 : Dyn X_f23 R_f23 := .of tt_f23
noncomputable def con_f23 : Con Tryz.prog :=
  mkCon 25 J_f23 S_f23 D_f23 D_f23 (fun _ _ h => h) 2 0 [hsl_u64, hsl_u64] (by kernel_rfl) (by kernel_rfl) (by kernel_rfl) (lbk mxk (lbc ok_f23_4 rfl lbn) 4000 (fun x => by kernel_rfl) sd_f23) rfl rfl (fun _ => rfl) (by kernel_rfl) rfl (fun _ => rfl) (fun x y _ => by kernel_rfl)
abbrev X_f43 : Type := TTh × TTh
abbrev R_f43 : Type := Bool
noncomputable def J_f43 : Job Tryz.prog :=
  job Tryz.prog Tryz.f50 52 [(2, 3), (3, 3)] [] [] [] [.any] [] [con_f23] R_f43 [] fun y => [V.bool y]
noncomputable def S_f43 : LabS :=
  lab0 Tryz.f50 2 0 X_f43 (fun x => [e_TTh x.1, e_TTh x.2]) fun l => (d_TTh (at_ l 0), d_TTh (at_ l 1))
noncomputable def tt_f43 (x : X_f43) : TT Tryz.prog R_f43 :=
 (.ite (ieq x.fst.At x.snd.At)
 (.ite (ieq x.fst.Phase x.snd.Phase)
 (.ite (ieq x.fst.Ring x.snd.Ring)
 (.ite (ieq x.fst.Status x.snd.Status)
 (.ite (ieq x.fst.Ticket x.snd.Ticket)
 (.ite ((ieq (x.fst.Regs 0) (x.snd.Regs 0)) && ((ieq (x.fst.Regs 1) (x.snd.Regs 1)) && ((ieq (x.fst.Regs 2) (x.snd.Regs 2)) && ((ieq (x.fst.Regs 3) (x.snd.Regs 3)) && ((ieq (x.fst.Regs 4) (x.snd.Regs 4)) && ((ieq (x.fst.Regs 5) (x.snd.Regs 5)) && ((ieq (x.fst.Regs 6) (x.snd.Regs 6)) && ((ieq (x.fst.Regs 7) (x.snd.Regs 7)) && true))))))))
 (.call con_f23 (x.fst.Seen, x.snd.Seen) fun (y1 : R_f23) =>
 (.ret y1))
 (.ret false))
 (.ret false))
 (.ret false))
 (.ret false))
 (.ret false))
 (.ret false))
theorem sd_f43 (x : X_f43) : (tt_f43 x).Sides :=
  (TT.sI (TT.sI (TT.sI (TT.sI (TT.sI (TT.sI (TT.sC fun _ => TT.sR) TT.sR) TT.sR) TT.sR) TT.sR) TT.sR) TT.sR)
noncomputable def D_f43 : Dyn X_f43 R_f43 := .of tt_f43
noncomputable def con_f43 : Con Tryz.prog :=
  mkCon 50 J_f43 S_f43 D_f43 D_f43 (fun _ _ h => h) 2 0 [sh_TTh, sh_TTh] (by kernel_rfl) (by kernel_rfl) (by kernel_rfl) (lbk mxk lbn 4000 (fun x => by kernel_rfl) sd_f43) rfl rfl (fun _ => rfl) (by kernel_rfl) rfl (fun _ => rfl) (fun x y _ => by kernel_rfl)
abbrev X_f29 : Type := (Sl TSo) × (Sl TSo)
abbrev R_f29 : Type := Bool
noncomputable def J_f29 : Job Tryz.prog :=
  job Tryz.prog Tryz.f95 26 [] [] [] [] [.any] [] [] R_f29 [] fun y => [V.bool y]
noncomputable def S_f29 : LabS :=
  lab0 Tryz.f95 2 0 X_f29 (fun x => [esl_TSo x.1, esl_TSo x.2]) fun l => (dsl_TSo (at_ l 0), dsl_TSo (at_ l 1))
structure X_f29_4 where
  a_0 : (Sl TSo)
  b_1 : (Sl TSo)
  i_5 : Int
noncomputable def S_f29_4 : LabS :=
  labAt Tryz.f95 4 [(0, hsl_TSo), (1, hsl_TSo), (5, .any)] [] [] X_f29_4 (fun x => [esl_TSo x.a_0, esl_TSo x.b_1, (V.int .i64) x.i_5]) fun l => ⟨dsl_TSo (at_ l 0), dsl_TSo (at_ l 1), dI (at_ l 2)⟩
noncomputable def tt_f29_4 (D_f29_4 : Dyn X_f29_4 R_f29) (x : X_f29_4) : TT Tryz.prog R_f29 :=
 (.ite (ilt x.i_5 ((x.a_0.n : Nat) : Int))
 (.need (inb x.i_5 x.a_0.n) <|
 (.need (inb x.i_5 x.b_1.n) <|
 (.ite (!((ieq (x.a_0.get (Int.toNat x.i_5)).Stamp (x.b_1.get (Int.toNat x.i_5)).Stamp) && ((ieq (x.a_0.get (Int.toNat x.i_5)).Value (x.b_1.get (Int.toNat x.i_5)).Value) && ((ieq (x.a_0.get (Int.toNat x.i_5)).Left (x.b_1.get (Int.toNat x.i_5)).Left) && true))))
 (.ret false)
 (.jump S_f29_4 D_f29_4 (X_f29_4.mk x.a_0 x.b_1 (IntKind.i64.wrap (x.i_5 + 1)))))))
 (.ret true))
theorem sd_f29_4 (D_f29_4 : Dyn X_f29_4 R_f29) (x : X_f29_4) : (tt_f29_4 D_f29_4 x).Sides :=
  (TT.sI (TT.sN (TT.sN (TT.sI TT.sR TT.sJ))) TT.sR)
noncomputable def D_f29_4 : Dyn X_f29_4 R_f29 := Dyn.loop tt_f29_4
theorem ok_f29_4 : LabOK J_f29 S_f29_4 D_f29_4 :=
  loop_ok fun D_f29_4 h_4 => lbk mxk (lbc h_4 rfl lbn) 4000 (fun x => by kernel_rfl) (sd_f29_4 D_f29_4)
noncomputable def tt_f29 (x : X_f29) : TT Tryz.prog R_f29 :=
 (.ite (!(ieq ((x.fst.n : Nat) : Int) ((x.snd.n : Nat) : Int)))
 (.ret false)
 (.jump S_f29_4 D_f29_4 (X_f29_4.mk x.fst x.snd 0)))
theorem sd_f29 (x : X_f29) : (tt_f29 x).Sides :=
  (TT.sI TT.sR TT.sJ)
noncomputable def D_f29 : Dyn X_f29 R_f29 := .of tt_f29
noncomputable def con_f29 : Con Tryz.prog :=
  mkCon 95 J_f29 S_f29 D_f29 D_f29 (fun _ _ h => h) 2 0 [hsl_TSo, hsl_TSo] (by kernel_rfl) (by kernel_rfl) (by kernel_rfl) (lbk mxk (lbc ok_f29_4 rfl lbn) 4000 (fun x => by kernel_rfl) sd_f29) rfl rfl (fun _ => rfl) (by kernel_rfl) rfl (fun _ => rfl) (fun x y _ => by kernel_rfl)
abbrev X_f18 : Type := TRs × TRs
abbrev R_f18 : Type := Bool
noncomputable def J_f18 : Job Tryz.prog :=
  job Tryz.prog Tryz.f51 53 [(2, 3), (3, 3)] [] [] [] [.any] [] [con_f29] R_f18 [] fun y => [V.bool y]
noncomputable def S_f18 : LabS :=
  lab0 Tryz.f51 2 0 X_f18 (fun x => [e_TRs x.1, e_TRs x.2]) fun l => (d_TRs (at_ l 0), d_TRs (at_ l 1))
structure X_f18_3 where
  a_2 : TRs
  b_3 : TRs
noncomputable def S_f18_3 : LabS :=
  labAt Tryz.f51 3 [(2, .any), (3, .any)] [] [] X_f18_3 (fun x => [(eVp e_TRs) x.a_2, (eVp e_TRs) x.b_3]) fun l => ⟨(dVp d_TRs) (at_ l 0), (dVp d_TRs) (at_ l 1)⟩
structure X_f18_4 where
  a_2 : TRs
  b_3 : TRs
  i_5 : Int
noncomputable def S_f18_4 : LabS :=
  labAt Tryz.f51 4 [(2, .any), (3, .any), (5, .any)] [] [] X_f18_4 (fun x => [(eVp e_TRs) x.a_2, (eVp e_TRs) x.b_3, (V.int .i64) x.i_5]) fun l => ⟨(dVp d_TRs) (at_ l 0), (dVp d_TRs) (at_ l 1), dI (at_ l 2)⟩
noncomputable def tt_f18_4 (D_f18_4 : Dyn X_f18_4 R_f18) (x : X_f18_4) : TT Tryz.prog R_f18 :=
 (.ite (ilt x.i_5 ((x.a_2.Heads.n : Nat) : Int))
 (.need (inb x.i_5 x.a_2.Heads.n) <|
 (.need (inb x.i_5 x.b_3.Heads.n) <|
 (.ite (!(ieq (x.a_2.Heads.get (Int.toNat x.i_5)) (x.b_3.Heads.get (Int.toNat x.i_5))))
 (.ret false)
 (.jump S_f18_4 D_f18_4 (X_f18_4.mk x.a_2 x.b_3 (IntKind.i64.wrap (x.i_5 + 1)))))))
 (.ret true))
theorem sd_f18_4 (D_f18_4 : Dyn X_f18_4 R_f18) (x : X_f18_4) : (tt_f18_4 D_f18_4 x).Sides :=
  (TT.sI (TT.sN (TT.sN (TT.sI TT.sR TT.sJ))) TT.sR)
noncomputable def D_f18_4 : Dyn X_f18_4 R_f18 := Dyn.loop tt_f18_4
theorem ok_f18_4 : LabOK J_f18 S_f18_4 D_f18_4 :=
  loop_ok fun D_f18_4 h_4 => lbk mxk (lbc h_4 rfl lbn) 4000 (fun x => by kernel_rfl) (sd_f18_4 D_f18_4)
noncomputable def tt_f18_3 (x : X_f18_3) : TT Tryz.prog R_f18 :=
 (.jump S_f18_4 D_f18_4 (X_f18_4.mk x.a_2 x.b_3 0))
theorem sd_f18_3 (x : X_f18_3) : (tt_f18_3 x).Sides :=
  TT.sJ
noncomputable def D_f18_3 : Dyn X_f18_3 R_f18 := .of tt_f18_3
theorem ok_f18_3 : LabOK J_f18 S_f18_3 D_f18_3 :=
  lbk mxk (lbc ok_f18_4 rfl lbn) 4000 (fun x => by kernel_rfl) sd_f18_3
noncomputable def tt_f18 (x : X_f18) : TT Tryz.prog R_f18 :=
 (.ite (!(ieq x.fst.Tail x.snd.Tail))
 (.ret false)
 (.ite (!(x.fst.Closed == x.snd.Closed))
 (.ret false)
 (.ite (!(ieq ((x.fst.Heads.n : Nat) : Int) ((x.snd.Heads.n : Nat) : Int)))
 (.ret false)
 (.call con_f29 (x.fst.Slots, x.snd.Slots) fun (y1 : R_f29) =>
 (.ite (!y1)
 (.ret false)
 (.jump S_f18_3 D_f18_3 (X_f18_3.mk x.fst x.snd)))))))
theorem sd_f18 (x : X_f18) : (tt_f18 x).Sides :=
  (TT.sI TT.sR (TT.sI TT.sR (TT.sI TT.sR (TT.sC fun _ => (TT.sI TT.sR TT.sJ)))))
noncomputable def D_f18 : Dyn X_f18 R_f18 := .of tt_f18
noncomputable def con_f18 : Con Tryz.prog :=
  mkCon 51 J_f18 S_f18 D_f18 D_f18 (fun _ _ h => h) 2 0 [sh_TRs, sh_TRs] (by kernel_rfl) (by kernel_rfl) (by kernel_rfl) (lbk mxk (lbc ok_f18_4 rfl (lbc ok_f18_3 rfl lbn)) 4000 (fun x => by kernel_rfl) sd_f18) rfl rfl (fun _ => rfl) (by kernel_rfl) rfl (fun _ => rfl) (fun x y _ => by kernel_rfl)
abbrev X_fj : Type := TSt × TSt
abbrev R_fj : Type := Bool
noncomputable def J_fj : Job Tryz.prog :=
  job Tryz.prog Tryz.f16 82 [(2, 3), (3, 3)] [] [] [] [.any] [] [con_f18, con_f43] R_fj [] fun y => [V.bool y]
noncomputable def S_fj : LabS :=
  lab0 Tryz.f16 2 0 X_fj (fun x => [e_TSt x.1, e_TSt x.2]) fun l => (d_TSt (at_ l 0), d_TSt (at_ l 1))
structure X_fj_3 where
  a_2 : TSt
  b_3 : TSt
noncomputable def S_fj_3 : LabS :=
  labAt Tryz.f16 3 [(2, .any), (3, .any)] [] [] X_fj_3 (fun x => [(eVp e_TSt) x.a_2, (eVp e_TSt) x.b_3]) fun l => ⟨(dVp d_TSt) (at_ l 0), (dVp d_TSt) (at_ l 1)⟩
structure X_fj_4 where
  a_2 : TSt
  b_3 : TSt
  i_5 : Int
noncomputable def S_fj_4 : LabS :=
  labAt Tryz.f16 4 [(2, .any), (3, .any), (5, .any)] [] [] X_fj_4 (fun x => [(eVp e_TSt) x.a_2, (eVp e_TSt) x.b_3, (V.int .i64) x.i_5]) fun l => ⟨(dVp d_TSt) (at_ l 0), (dVp d_TSt) (at_ l 1), dI (at_ l 2)⟩
structure X_fj_8 where
  a_2 : TSt
  b_3 : TSt
noncomputable def S_fj_8 : LabS :=
  labAt Tryz.f16 8 [(2, .any), (3, .any)] [] [] X_fj_8 (fun x => [(eVp e_TSt) x.a_2, (eVp e_TSt) x.b_3]) fun l => ⟨(dVp d_TSt) (at_ l 0), (dVp d_TSt) (at_ l 1)⟩
structure X_fj_9 where
  a_2 : TSt
  b_3 : TSt
  i_6 : Int
noncomputable def S_fj_9 : LabS :=
  labAt Tryz.f16 9 [(2, .any), (3, .any), (6, .any)] [] [] X_fj_9 (fun x => [(eVp e_TSt) x.a_2, (eVp e_TSt) x.b_3, (V.int .i64) x.i_6]) fun l => ⟨(dVp d_TSt) (at_ l 0), (dVp d_TSt) (at_ l 1), dI (at_ l 2)⟩
noncomputable def tt_fj_9 (D_fj_9 : Dyn X_fj_9 R_fj) (x : X_fj_9) : TT Tryz.prog R_fj :=
 (.ite (ilt x.i_6 ((x.a_2.Rings.n : Nat) : Int))
 (.need (inb x.i_6 x.a_2.Rings.n) <|
 (.need (inb x.i_6 x.b_3.Rings.n) <|
 (.call con_f18 ((x.a_2.Rings.get (Int.toNat x.i_6)), (x.b_3.Rings.get (Int.toNat x.i_6))) fun (y2 : R_f18) =>
 (.ite (!y2)
 (.ret false)
 (.jump S_fj_9 D_fj_9 (X_fj_9.mk x.a_2 x.b_3 (IntKind.i64.wrap (x.i_6 + 1))))))))
 (.ret true))
theorem sd_fj_9 (D_fj_9 : Dyn X_fj_9 R_fj) (x : X_fj_9) : (tt_fj_9 D_fj_9 x).Sides :=
  (TT.sI (TT.sN (TT.sN (TT.sC fun _ => (TT.sI TT.sR TT.sJ)))) TT.sR)
noncomputable def D_fj_9 : Dyn X_fj_9 R_fj := Dyn.loop tt_fj_9
theorem ok_fj_9 : LabOK J_fj S_fj_9 D_fj_9 :=
  loop_ok fun D_fj_9 h_9 => lbk mxk (lbc h_9 rfl lbn) 4000 (fun x => by kernel_rfl) (sd_fj_9 D_fj_9)
noncomputable def tt_fj_8 (x : X_fj_8) : TT Tryz.prog R_fj :=
 (.jump S_fj_9 D_fj_9 (X_fj_9.mk x.a_2 x.b_3 0))
theorem sd_fj_8 (x : X_fj_8) : (tt_fj_8 x).Sides :=
  TT.sJ
noncomputable def D_fj_8 : Dyn X_fj_8 R_fj := .of tt_fj_8
theorem ok_fj_8 : LabOK J_fj S_fj_8 D_fj_8 :=
  lbk mxk (lbc ok_fj_9 rfl lbn) 4000 (fun x => by kernel_rfl) sd_fj_8
noncomputable def tt_fj_4 (D_fj_4 : Dyn X_fj_4 R_fj) (x : X_fj_4) : TT Tryz.prog R_fj :=
 (.ite (ilt x.i_5 ((x.a_2.Threads.n : Nat) : Int))
 (.need (inb x.i_5 x.a_2.Threads.n) <|
 (.need (inb x.i_5 x.b_3.Threads.n) <|
 (.call con_f43 ((x.a_2.Threads.get (Int.toNat x.i_5)), (x.b_3.Threads.get (Int.toNat x.i_5))) fun (y2 : R_f43) =>
 (.ite (!y2)
 (.ret false)
 (.jump S_fj_4 D_fj_4 (X_fj_4.mk x.a_2 x.b_3 (IntKind.i64.wrap (x.i_5 + 1))))))))
 (.jump S_fj_8 D_fj_8 (X_fj_8.mk x.a_2 x.b_3)))
theorem sd_fj_4 (D_fj_4 : Dyn X_fj_4 R_fj) (x : X_fj_4) : (tt_fj_4 D_fj_4 x).Sides :=
  (TT.sI (TT.sN (TT.sN (TT.sC fun _ => (TT.sI TT.sR TT.sJ)))) TT.sJ)
noncomputable def D_fj_4 : Dyn X_fj_4 R_fj := Dyn.loop tt_fj_4
theorem ok_fj_4 : LabOK J_fj S_fj_4 D_fj_4 :=
  loop_ok fun D_fj_4 h_4 => lbk mxk (lbc h_4 rfl (lbc ok_fj_9 rfl (lbc ok_fj_8 rfl lbn))) 4000 (fun x => by kernel_rfl) (sd_fj_4 D_fj_4)
noncomputable def tt_fj_3 (x : X_fj_3) : TT Tryz.prog R_fj :=
 (.jump S_fj_4 D_fj_4 (X_fj_4.mk x.a_2 x.b_3 0))
theorem sd_fj_3 (x : X_fj_3) : (tt_fj_3 x).Sides :=
  TT.sJ
noncomputable def D_fj_3 : Dyn X_fj_3 R_fj := .of tt_fj_3
theorem ok_fj_3 : LabOK J_fj S_fj_3 D_fj_3 :=
  lbk mxk (lbc ok_fj_9 rfl (lbc ok_fj_8 rfl (lbc ok_fj_4 rfl lbn))) 4000 (fun x => by kernel_rfl) sd_fj_3
noncomputable def tt_fj (x : X_fj) : TT Tryz.prog R_fj :=
 (.ite (!(ieq ((x.fst.Threads.n : Nat) : Int) ((x.snd.Threads.n : Nat) : Int)))
 (.ret false)
 (.ite (!(ieq ((x.fst.Rings.n : Nat) : Int) ((x.snd.Rings.n : Nat) : Int)))
 (.ret false)
 (.ite (!(ieq x.fst.Now x.snd.Now))
 (.ret false)
 (.ite (!(ieq x.fst.Reads x.snd.Reads))
 (.ret false)
 (.ite (!(x.fst.Ended == x.snd.Ended))
 (.ret false)
 (.jump S_fj_3 D_fj_3 (X_fj_3.mk x.fst x.snd)))))))
theorem sd_fj (x : X_fj) : (tt_fj x).Sides :=
  (TT.sI TT.sR (TT.sI TT.sR (TT.sI TT.sR (TT.sI TT.sR (TT.sI TT.sR TT.sJ)))))
noncomputable def D_fj : Dyn X_fj R_fj := .of tt_fj
noncomputable def con_fj : Con Tryz.prog :=
  mkCon 16 J_fj S_fj D_fj D_fj (fun _ _ h => h) 2 0 [sh_TSt, sh_TSt] (by kernel_rfl) (by kernel_rfl) (by kernel_rfl) (lbk mxk (lbc ok_fj_9 rfl (lbc ok_fj_8 rfl (lbc ok_fj_4 rfl (lbc ok_fj_3 rfl lbn)))) 4000 (fun x => by kernel_rfl) sd_fj) rfl rfl (fun _ => rfl) (by kernel_rfl) rfl (fun _ => rfl) (fun x y _ => by kernel_rfl)
abbrev X_fh : Type := Int × TFa
abbrev R_fh : Type := (Bx TRr)
abbrev RR_fh : Type := (Bx TRr) × TFa
abbrev p_fh (y : RR_fh) : TFa := y.2
abbrev w_fh (x : X_fh) : TFa := x.2
noncomputable def J_fh : Job Tryz.prog :=
  job Tryz.prog Tryz.f34 43 [(22, 1), (42, 1)] [(2, [.back (.loc 18 0)]), (3, [.back (.loc 18 0)]), (4, [.back (.loc 37 0), .back (.loc 34 0), .back (.loc 18 0)])] [(3, [.opn (.par 0) [.fld 2 3] 34])] [.back (.loc 37 0), .back (.loc 34 0), .back (.loc 18 0), .shut 4] [hbox_TRr] [sh_TFa] [con_fd, con_f1l] RR_fh [(0, [⟨.loc 34 0, .par 0, [.fld 2 3], none, none⟩]), (3, [⟨.loc 34 0, .par 0, [.fld 2 3], none, none⟩])] fun y => [ebox_TRr y.1, e_TFa y.2]
noncomputable def S_fh : LabS :=
  lab0 Tryz.f34 2 1 X_fh (fun x => [(V.ptr (.par 0) []), (V.int .i64) x.1, e_TFa x.2]) fun l => (dI (at_ l 1), d_TFa (at_ l 2))
structure X_fh_3 where
  i_1 : Int
  o_0 : TFa
noncomputable def S_fh_3 : LabS :=
  labAt Tryz.f34 3 [(0, .any), (1, .any)] [sh_TFa] [] X_fh_3 (fun x => [(V.ptr (.par 0) []), (V.int .i64) x.i_1, e_TFa x.o_0]) fun l => ⟨dI (at_ l 1), d_TFa (at_ l 2)⟩
abbrev w_fh_3 (x : X_fh_3) : TFa := (x.o_0)
noncomputable def tt_fh_3 (x : X_fh_3) : TT Tryz.prog RR_fh :=
 (.need (inb x.i_1 x.o_0.p.Rings.n) <|
 (.need (inb x.i_1 x.o_0.rings.n) <|
 (.need (((Nat.beq x.o_0.rings.n x.o_0.rings.n) && true) && (!(x.o_0.rings.get ((0 : Nat) + (Int.toNat x.i_1))).nil)) <|
 (.call con_f1l (x.o_0.rings.get ((0 : Nat) + (Int.toNat x.i_1))).x fun (y1 : R_f1l) =>
 (.call con_fd ((x.o_0.p.Rings.get (Int.toNat x.i_1)), y1) fun (y2 : R_fd) =>
 (.need ((true && true) && (((Nat.beq x.o_0.rings.n x.o_0.rings.n) && (Nat.blt ((0 : Nat) + (Int.toNat x.i_1)) x.o_0.rings.n)) && (!(x.o_0.rings.get ((0 : Nat) + (Int.toNat x.i_1))).nil))) <|
 (.side (((fun v : Nat → V => v = v) (fun i3 => (cond (Nat.beq i3 ((0 : Nat) + (Int.toNat x.i_1))) (V.ptr (Id.loc 37 0) List.nil) (V.obox (x.o_0.rings.get i3).nil (e_TRr (x.o_0.rings.get i3).x))))) ∧ (((fun v : V => v = v) (e_TRr (x.o_0.rings.get ((0 : Nat) + (Int.toNat x.i_1))).x)) ∧ ((fun v : V => v = v) (V.obox (x.o_0.rings.get ((0 : Nat) + (Int.toNat x.i_1))).nil (e_TRr (x.o_0.rings.get ((0 : Nat) + (Int.toNat x.i_1))).x))))) <|
 (.need ((true && true) && (Nat.beq x.o_0.rings.n x.o_0.rings.n)) <|
 (.ret (y2.fst, x.o_0))))))))))
theorem sd_fh_3 (x : X_fh_3) : (tt_fh_3 x).Sides :=
  (TT.sN (TT.sN (TT.sN (TT.sC fun _ => (TT.sC fun _ => (TT.sN (TT.sS ⟨rfl, ⟨rfl, rfl⟩⟩ (TT.sN TT.sR))))))))
theorem roT_fh_3 (x : X_fh_3) : TT.Ro p_fh (w_fh_3 x) (tt_fh_3 x) :=
  (TT.rN (TT.rN (TT.rN (TT.rC fun _ => (TT.rC fun _ => (TT.rN (TT.rS (TT.rN (TT.rR rfl)))))))))
noncomputable def D_fh_3 : Dyn X_fh_3 RR_fh := .of tt_fh_3
theorem ok_fh_3 : LabOK J_fh S_fh_3 D_fh_3 :=
  lbk mxk lbn 4000 (fun x => by kernel_rfl) sd_fh_3
theorem ro_fh_3 : ∀ x y, D_fh_3.rel x y → p_fh y = w_fh_3 x :=
  roT_fh_3 
noncomputable def tt_fh (x : X_fh) : TT Tryz.prog RR_fh :=
 (.ite (ilt x.fst 0)
 (.ret ((Bx.mk true (TRr.mk (TRc.mk 0 (Sl.mk true 0 (fun _i1 => (0 : Int)))) (Bx.mk true (TSs.mk (Sl.mk true 0 (fun _i1 => (TSo.mk 0 0 0))) 0)) 0 false)), x.snd))
 (.ite (ile ((x.snd.rings.n : Nat) : Int) x.fst)
 (.need ((true && true) && (Nat.beq x.snd.rings.n x.snd.rings.n)) <|
 (.ret ((Bx.mk true (TRr.mk (TRc.mk 0 (Sl.mk true 0 (fun _i1 => (0 : Int)))) (Bx.mk true (TSs.mk (Sl.mk true 0 (fun _i1 => (TSo.mk 0 0 0))) 0)) 0 false)), x.snd)))
 (.need ((true && true) && (Nat.beq x.snd.rings.n x.snd.rings.n)) <|
 (.jump S_fh_3 D_fh_3 (X_fh_3.mk x.fst x.snd)))))
theorem sd_fh (x : X_fh) : (tt_fh x).Sides :=
  (TT.sI TT.sR (TT.sI (TT.sN TT.sR) (TT.sN TT.sJ)))
theorem roT_fh (x : X_fh) : TT.Ro p_fh (w_fh x) (tt_fh x) :=
  (TT.rI (TT.rR rfl) (TT.rI (TT.rN (TT.rR rfl)) (TT.rN (TT.rJ (ro_fh_3 _)))))
noncomputable def D_fh : Dyn X_fh R_fh := .ro (.of tt_fh) (fun y => (y.1)) (fun y x => (y, x.2)) fun x y h => congrArg (fun o => (y.1, o)) (roT_fh x y h)
noncomputable def con_fh : Con Tryz.prog :=
  mkConP 34 J_fh S_fh (.of tt_fh) D_fh (fun y x => (y, x.2)) (fun _ _ h => h) (fun y => ebox_TRr y) 2 1 [.any, .any] (by kernel_rfl) (by kernel_rfl) (by kernel_rfl) (lbk mxk (lbc ok_fh_3 rfl lbn) 4000 (fun x => by kernel_rfl) sd_fh) rfl rfl (fun _ => rfl) (by kernel_rfl) rfl (fun _ _ => rfl) (fun _ => rfl) (fun x => ⟨(nu_e_TFa : ∀ y, (e_TFa y).NoU) (x.2), trivial⟩)
abbrev X_f2j : Type := (Bx TRr)
abbrev R_f2j : Type := TRs
noncomputable def J_f2j : Job Tryz.prog :=
  job Tryz.prog Tryz.f54 27 [(21, 1)] [] [(0, [.open_ 0]), (3, [.opn (.loc 0 1) [.fld 0 0, .fld 1 1] 15, .opn (.loc 0 1) [.fld 1 2] 24])] [.close (.loc 24 0), .close (.loc 15 0)] [sh_TRs] [] [con_fx, con_f1r] R_f2j [(0, [⟨.loc 15 0, .loc 0 1, [.fld 0 0, .fld 1 1], none, none⟩, ⟨.loc 24 0, .loc 0 1, [.fld 1 2], none, none⟩])] fun y => [e_TRs y]
noncomputable def S_f2j : LabS :=
  lab0 Tryz.f54 1 0 X_f2j (fun x => [ebox_TRr x]) fun l => (dbox_TRr (at_ l 0))
noncomputable def tt_f2j (x : X_f2j) : TT Tryz.prog R_f2j :=
 (.need (!x.nil) <|
 (.need ((true && true) && (!x.x.s.nil)) <|
 (.call con_fx (Ar.mk x.x.cursors.heads.n x.x.cursors.heads.get) fun (y1 : R_fx) =>
 (.call con_f1r x.x.s.x fun (y2 : R_f1r) =>
 (.need ((true && true) && (Nat.beq x.x.cursors.heads.n x.x.cursors.heads.n)) <|
 (.ret (TRs.mk x.x.cursors.tail y1 x.x.closed y2)))))))
theorem sd_f2j (x : X_f2j) : (tt_f2j x).Sides :=
  (TT.sN (TT.sN (TT.sC fun _ => (TT.sC fun _ => (TT.sN TT.sR)))))
noncomputable def D_f2j : Dyn X_f2j R_f2j := .of tt_f2j
noncomputable def con_f2j : Con Tryz.prog :=
  mkCon 54 J_f2j S_f2j D_f2j D_f2j (fun _ _ h => h) 1 0 [hbox_TRr] (by kernel_rfl) (by kernel_rfl) (by kernel_rfl) (lbk mxk lbn 4000 (fun x => by kernel_rfl) sd_f2j) rfl rfl (fun _ => rfl) (by kernel_rfl) rfl (fun _ => rfl) (fun x y _ => by kernel_rfl)
abbrev X_f2 : Type := TPg × TSt × TFa
abbrev R_f2 : Type := Bool
abbrev RR_f2 : Type := Bool × TFa
abbrev p_f2 (y : RR_f2) : TFa := y.2
abbrev w_f2 (x : X_f2) : TFa := x.2.2
noncomputable def J_f2 : Job Tryz.prog :=
  job Tryz.prog Tryz.f30 130 [(4, 3), (5, 3), (20, 1)] [] [] [] [.any] [sh_TFa] [con_f1f, con_f1k, con_f1d, con_fh, con_f1c, con_f1e, con_f3, con_f23, con_f18, con_f3n, con_fj, con_f2j] RR_f2 [] fun y => [V.bool y.1, e_TFa y.2]
noncomputable def S_f2 : LabS :=
  lab0 Tryz.f30 3 1 X_f2 (fun x => [(V.ptr (.par 0) []), e_TPg x.1, e_TSt x.2.1, e_TFa x.2.2]) fun l => (d_TPg (at_ l 1), d_TSt (at_ l 2), d_TFa (at_ l 3))
structure X_f2_3 where
  p_4 : TPg
  s_5 : TSt
  over_7 : Bool
  q_16 : Int
  q_17 : Int
  o_0 : TFa
noncomputable def S_f2_3 : LabS :=
  labAt Tryz.f30 3 [(0, .any), (4, .any), (5, .any), (7, .any), (16, .any), (17, .any)] [sh_TFa] [] X_f2_3 (fun x => [(V.ptr (.par 0) []), (eVp e_TPg) x.p_4, (eVp e_TSt) x.s_5, V.bool x.over_7, (V.int .i64) x.q_16, (V.int .i64) x.q_17, e_TFa x.o_0]) fun l => ⟨(dVp d_TPg) (at_ l 1), (dVp d_TSt) (at_ l 2), dB (at_ l 3), dI (at_ l 4), dI (at_ l 5), d_TFa (at_ l 6)⟩
structure X_f2_9 where
  p_4 : TPg
  s_5 : TSt
  over_7 : Bool
  t_8 : Int
  e_10 : Int
  runs_12 : Bool
  q_16 : Int
  q_17 : Int
  o_0 : TFa
  m_11 : TA6
noncomputable def S_f2_9 : LabS :=
  labAt Tryz.f30 9 [(0, .any), (4, .any), (5, .any), (7, .any), (8, .any), (10, .any), (11, .any), (12, .any), (16, .any), (17, .any)] [sh_TFa] [(.loc 11 0, .any)] X_f2_9 (fun x => [(V.ptr (.par 0) []), (eVp e_TPg) x.p_4, (eVp e_TSt) x.s_5, V.bool x.over_7, (V.int .i64) x.t_8, (V.int .i64) x.e_10, (V.ptr (.loc 11 0) []), V.bool x.runs_12, (V.int .i64) x.q_16, (V.int .i64) x.q_17, e_TFa x.o_0, e_TA6 x.m_11]) fun l => ⟨(dVp d_TPg) (at_ l 1), (dVp d_TSt) (at_ l 2), dB (at_ l 3), dI (at_ l 4), dI (at_ l 5), dB (at_ l 7), dI (at_ l 8), dI (at_ l 9), d_TFa (at_ l 10), d_TA6 (at_ l 11)⟩
structure X_f2_11 where
  p_4 : TPg
  s_5 : TSt
  over_7 : Bool
  q_16 : Int
  q_17 : Int
  o_0 : TFa
noncomputable def S_f2_11 : LabS :=
  labAt Tryz.f30 11 [(0, .any), (4, .any), (5, .any), (7, .any), (16, .any), (17, .any)] [sh_TFa] [] X_f2_11 (fun x => [(V.ptr (.par 0) []), (eVp e_TPg) x.p_4, (eVp e_TSt) x.s_5, V.bool x.over_7, (V.int .i64) x.q_16, (V.int .i64) x.q_17, e_TFa x.o_0]) fun l => ⟨(dVp d_TPg) (at_ l 1), (dVp d_TSt) (at_ l 2), dB (at_ l 3), dI (at_ l 4), dI (at_ l 5), d_TFa (at_ l 6)⟩
structure X_f2_12 where
  s_5 : TSt
  over_7 : Bool
  o_0 : TFa
noncomputable def S_f2_12 : LabS :=
  labAt Tryz.f30 12 [(0, .any), (5, .any), (7, .any)] [sh_TFa] [] X_f2_12 (fun x => [(V.ptr (.par 0) []), (eVp e_TSt) x.s_5, V.bool x.over_7, e_TFa x.o_0]) fun l => ⟨(dVp d_TSt) (at_ l 1), dB (at_ l 2), d_TFa (at_ l 3)⟩
structure X_f2_13 where
  s_5 : TSt
  over_7 : Bool
  q_84 : Int
  q_85 : Int
  o_0 : TFa
noncomputable def S_f2_13 : LabS :=
  labAt Tryz.f30 13 [(0, .any), (5, .any), (7, .any), (84, .any), (85, .any)] [sh_TFa] [] X_f2_13 (fun x => [(V.ptr (.par 0) []), (eVp e_TSt) x.s_5, V.bool x.over_7, (V.int .i64) x.q_84, (V.int .i64) x.q_85, e_TFa x.o_0]) fun l => ⟨(dVp d_TSt) (at_ l 1), dB (at_ l 2), dI (at_ l 3), dI (at_ l 4), d_TFa (at_ l 5)⟩
structure X_f2_18 where
  s_5 : TSt
  over_7 : Bool
  o_0 : TFa
noncomputable def S_f2_18 : LabS :=
  labAt Tryz.f30 18 [(0, .any), (5, .any), (7, .any)] [sh_TFa] [] X_f2_18 (fun x => [(V.ptr (.par 0) []), (eVp e_TSt) x.s_5, V.bool x.over_7, e_TFa x.o_0]) fun l => ⟨(dVp d_TSt) (at_ l 1), dB (at_ l 2), d_TFa (at_ l 3)⟩
abbrev w_f2_3 (x : X_f2_3) : TFa := (x.o_0)
abbrev w_f2_9 (x : X_f2_9) : TFa := (x.o_0)
abbrev w_f2_11 (x : X_f2_11) : TFa := (x.o_0)
abbrev w_f2_12 (x : X_f2_12) : TFa := (x.o_0)
abbrev w_f2_13 (x : X_f2_13) : TFa := (x.o_0)
abbrev w_f2_18 (x : X_f2_18) : TFa := (x.o_0)
noncomputable def tt_f2_18 (x : X_f2_18) : TT Tryz.prog RR_f2 :=
 (.call con_f1d x.o_0 fun (y1 : R_f1d) =>
 (.ite (y1 == x.over_7)
 (.call con_f1k x.o_0 fun (y2 : R_f1k) =>
 (.ite (ieq y2 x.s_5.Now)
 (.call con_fh (((x.s_5.Rings.n : Nat) : Int), x.o_0) fun (y3 : R_fh) =>
 (.ite y3.nil
 (.call con_fh ((-(1 : Int)), x.o_0) fun (y4 : R_fh) =>
 (.ite y4.nil
 (.call con_f3 x.o_0 fun (y5 : R_f3) =>
 (.call con_fj (y5, x.s_5) fun (y6 : R_fj) =>
 (.ret (y6, x.o_0))))
 (.ret (false, x.o_0))))
 (.ret (false, x.o_0))))
 (.ret (false, x.o_0))))
 (.ret (false, x.o_0))))
theorem sd_f2_18 (x : X_f2_18) : (tt_f2_18 x).Sides :=
  (TT.sC fun _ => (TT.sI (TT.sC fun _ => (TT.sI (TT.sC fun _ => (TT.sI (TT.sC fun _ => (TT.sI (TT.sC fun _ => (TT.sC fun _ => TT.sR)) TT.sR)) TT.sR)) TT.sR)) TT.sR))
theorem roT_f2_18 (x : X_f2_18) : TT.Ro p_f2 (w_f2_18 x) (tt_f2_18 x) :=
  (TT.rC fun _ => (TT.rI (TT.rC fun _ => (TT.rI (TT.rC fun _ => (TT.rI (TT.rC fun _ => (TT.rI (TT.rC fun _ => (TT.rC fun _ => (TT.rR rfl))) (TT.rR rfl))) (TT.rR rfl))) (TT.rR rfl))) (TT.rR rfl)))
noncomputable def D_f2_18 : Dyn X_f2_18 RR_f2 := .of tt_f2_18
theorem ok_f2_18 : LabOK J_f2 S_f2_18 D_f2_18 :=
  lbk mxk lbn 4000 (fun x => by kernel_rfl) sd_f2_18
theorem ro_f2_18 : ∀ x y, D_f2_18.rel x y → p_f2 y = w_f2_18 x :=
  roT_f2_18 
noncomputable def tt_f2_13 (D_f2_13 : Dyn X_f2_13 RR_f2) (x : X_f2_13) : TT Tryz.prog RR_f2 :=
 (.ite (ilt x.q_85 x.q_84)
 (.call con_fh (x.q_85, x.o_0) fun (y2 : R_fh) =>
 (.call con_f2j y2 fun (y3 : R_f2j) =>
 (.need (inb x.q_85 x.s_5.Rings.n) <|
 (.call con_f18 (y3, (x.s_5.Rings.get (Int.toNat x.q_85))) fun (y4 : R_f18) =>
 (.ite (!y4)
 (.ret (false, x.o_0))
 (.jump S_f2_13 D_f2_13 (X_f2_13.mk x.s_5 x.over_7 x.q_84 (IntKind.i64.wrap (x.q_85 + 1)) x.o_0)))))))
 (.jump S_f2_18 D_f2_18 (X_f2_18.mk x.s_5 x.over_7 x.o_0)))
theorem sd_f2_13 (D_f2_13 : Dyn X_f2_13 RR_f2) (x : X_f2_13) : (tt_f2_13 D_f2_13 x).Sides :=
  (TT.sI (TT.sC fun _ => (TT.sC fun _ => (TT.sN (TT.sC fun _ => (TT.sI TT.sR TT.sJ))))) TT.sJ)
theorem roT_f2_13 (D_f2_13 : Dyn X_f2_13 RR_f2) (r_w17_agrees_13 : ∀ x y, D_f2_13.rel x y → p_f2 y = w_f2_13 x) (x : X_f2_13) : TT.Ro p_f2 (w_f2_13 x) (tt_f2_13 D_f2_13 x) :=
  (TT.rI (TT.rC fun _ => (TT.rC fun _ => (TT.rN (TT.rC fun _ => (TT.rI (TT.rR rfl) (TT.rJ (r_w17_agrees_13 _))))))) (TT.rJ (ro_f2_18 _)))
noncomputable def D_f2_13 : Dyn X_f2_13 RR_f2 := Dyn.loop tt_f2_13
theorem ok_f2_13 : LabOK J_f2 S_f2_13 D_f2_13 :=
  loop_ok fun D_f2_13 h_13 => lbk mxk (lbc h_13 rfl (lbc ok_f2_18 rfl lbn)) 4000 (fun x => by kernel_rfl) (sd_f2_13 D_f2_13)
theorem ro_f2_13 : ∀ x y, D_f2_13.rel x y → p_f2 y = w_f2_13 x :=
  loop_ro fun D_f2_13 r_w17_agrees_13 => roT_f2_13 D_f2_13 r_w17_agrees_13
noncomputable def tt_f2_12 (x : X_f2_12) : TT Tryz.prog RR_f2 :=
 (.jump S_f2_13 D_f2_13 (X_f2_13.mk x.s_5 x.over_7 ((x.s_5.Rings.n : Nat) : Int) 0 x.o_0))
theorem sd_f2_12 (x : X_f2_12) : (tt_f2_12 x).Sides :=
  TT.sJ
theorem roT_f2_12 (x : X_f2_12) : TT.Ro p_f2 (w_f2_12 x) (tt_f2_12 x) :=
  (TT.rJ (ro_f2_13 _))
noncomputable def D_f2_12 : Dyn X_f2_12 RR_f2 := .of tt_f2_12
theorem ok_f2_12 : LabOK J_f2 S_f2_12 D_f2_12 :=
  lbk mxk (lbc ok_f2_18 rfl (lbc ok_f2_13 rfl lbn)) 4000 (fun x => by kernel_rfl) sd_f2_12
theorem ro_f2_12 : ∀ x y, D_f2_12.rel x y → p_f2 y = w_f2_12 x :=
  roT_f2_12 
noncomputable def tt_f2_11 (D_f2_3 : Dyn X_f2_3 RR_f2) (x : X_f2_11) : TT Tryz.prog RR_f2 :=
 (.jump S_f2_3 D_f2_3 (X_f2_3.mk x.p_4 x.s_5 x.over_7 x.q_16 (IntKind.i64.wrap (x.q_17 + 1)) x.o_0))
theorem sd_f2_11 (D_f2_3 : Dyn X_f2_3 RR_f2) (x : X_f2_11) : (tt_f2_11 D_f2_3 x).Sides :=
  TT.sJ
theorem roT_f2_11 (D_f2_3 : Dyn X_f2_3 RR_f2) (r_w17_agrees_3 : ∀ x y, D_f2_3.rel x y → p_f2 y = w_f2_3 x) (x : X_f2_11) : TT.Ro p_f2 (w_f2_11 x) (tt_f2_11 D_f2_3 x) :=
  (TT.rJ (r_w17_agrees_3 _))
noncomputable def D_f2_11 (D_f2_3 : Dyn X_f2_3 RR_f2) : Dyn X_f2_11 RR_f2 := .of (tt_f2_11 D_f2_3)
theorem ok_f2_11 (D_f2_3 : Dyn X_f2_3 RR_f2) (h_3 : LabOK J_f2 S_f2_3 D_f2_3) : LabOK J_f2 S_f2_11 (D_f2_11 D_f2_3) :=
  lbk mxk (lbc h_3 rfl (lbc ok_f2_18 rfl (lbc ok_f2_13 rfl (lbc ok_f2_12 rfl lbn)))) 4000 (fun x => by kernel_rfl) (sd_f2_11 D_f2_3)
theorem ro_f2_11 (D_f2_3 : Dyn X_f2_3 RR_f2) (r_w17_agrees_3 : ∀ x y, D_f2_3.rel x y → p_f2 y = w_f2_3 x) : ∀ x y, (D_f2_11 D_f2_3).rel x y → p_f2 y = w_f2_11 x :=
  roT_f2_11 D_f2_3 r_w17_agrees_3
noncomputable def tt_f2_9 (D_f2_3 : Dyn X_f2_3 RR_f2) (x : X_f2_9) : TT Tryz.prog RR_f2 :=
 (.ite (!(ieq x.e_10 0))
 (.ret (false, x.o_0))
 (.call con_f3n (x.p_4, (x.s_5, x.t_8)) fun (y2 : R_f3n) =>
 (.ite (!((ieq x.m_11.Kind y2.Kind) && ((ieq x.m_11.Ring y2.Ring) && ((ieq x.m_11.Mode y2.Mode) && ((ieq x.m_11.Reader y2.Reader) && ((ieq x.m_11.Ticket y2.Ticket) && ((ieq x.m_11.Value y2.Value) && true)))))))
 (.ret (false, x.o_0))
 (.call con_f1c (x.t_8, x.o_0) fun (y3 : R_f1c) =>
 (.ite (!(y3 == x.runs_12))
 (.ret (false, x.o_0))
 (.call con_f1e (x.t_8, x.o_0) fun (y4 : R_f1e) =>
 (.need (inb x.t_8 x.s_5.Threads.n) <|
 (.call con_f23 (y4, (x.s_5.Threads.get (Int.toNat x.t_8)).Seen) fun (y5 : R_f23) =>
 (.ite (!y5)
 (.ret (false, x.o_0))
 (.jump S_f2_11 (D_f2_11 D_f2_3) (X_f2_11.mk x.p_4 x.s_5 x.over_7 x.q_16 x.q_17 x.o_0)))))))))))
theorem sd_f2_9 (D_f2_3 : Dyn X_f2_3 RR_f2) (x : X_f2_9) : (tt_f2_9 D_f2_3 x).Sides :=
  (TT.sI TT.sR (TT.sC fun _ => (TT.sI TT.sR (TT.sC fun _ => (TT.sI TT.sR (TT.sC fun _ => (TT.sN (TT.sC fun _ => (TT.sI TT.sR TT.sJ)))))))))
theorem roT_f2_9 (D_f2_3 : Dyn X_f2_3 RR_f2) (r_w17_agrees_3 : ∀ x y, D_f2_3.rel x y → p_f2 y = w_f2_3 x) (x : X_f2_9) : TT.Ro p_f2 (w_f2_9 x) (tt_f2_9 D_f2_3 x) :=
  (TT.rI (TT.rR rfl) (TT.rC fun _ => (TT.rI (TT.rR rfl) (TT.rC fun _ => (TT.rI (TT.rR rfl) (TT.rC fun _ => (TT.rN (TT.rC fun _ => (TT.rI (TT.rR rfl) (TT.rJ (ro_f2_11 D_f2_3 r_w17_agrees_3 _)))))))))))
noncomputable def D_f2_9 (D_f2_3 : Dyn X_f2_3 RR_f2) : Dyn X_f2_9 RR_f2 := .of (tt_f2_9 D_f2_3)
theorem ok_f2_9 (D_f2_3 : Dyn X_f2_3 RR_f2) (h_3 : LabOK J_f2 S_f2_3 D_f2_3) : LabOK J_f2 S_f2_9 (D_f2_9 D_f2_3) :=
  lbk mxk (lbc h_3 rfl (lbc ok_f2_18 rfl (lbc ok_f2_13 rfl (lbc ok_f2_12 rfl (lbc (ok_f2_11 D_f2_3 h_3) rfl lbn))))) 4000 (fun x => by kernel_rfl) (sd_f2_9 D_f2_3)
theorem ro_f2_9 (D_f2_3 : Dyn X_f2_3 RR_f2) (r_w17_agrees_3 : ∀ x y, D_f2_3.rel x y → p_f2 y = w_f2_3 x) : ∀ x y, (D_f2_9 D_f2_3).rel x y → p_f2 y = w_f2_9 x :=
  roT_f2_9 D_f2_3 r_w17_agrees_3
noncomputable def tt_f2_3 (D_f2_3 : Dyn X_f2_3 RR_f2) (x : X_f2_3) : TT Tryz.prog RR_f2 :=
 (.ite (ilt x.q_17 x.q_16)
 (.call con_f1f (x.q_17, x.o_0) fun (y2 : R_f1f) =>
 (.need (inb x.q_17 x.s_5.Threads.n) <|
 (.ite x.over_7
 (.jump S_f2_9 (D_f2_9 D_f2_3) (X_f2_9.mk x.p_4 x.s_5 (!(ieq (x.s_5.Threads.get (Int.toNat x.q_17)).Status 0)) x.q_17 y2.snd (ieq (x.s_5.Threads.get (Int.toNat x.q_17)).Status 0) x.q_16 x.q_17 x.o_0 (TA6.mk y2.fst.Kind y2.fst.Ring y2.fst.Mode y2.fst.Reader y2.fst.Ticket y2.fst.Value)))
 (.jump S_f2_9 (D_f2_9 D_f2_3) (X_f2_9.mk x.p_4 x.s_5 false x.q_17 y2.snd (ieq (x.s_5.Threads.get (Int.toNat x.q_17)).Status 0) x.q_16 x.q_17 x.o_0 (TA6.mk y2.fst.Kind y2.fst.Ring y2.fst.Mode y2.fst.Reader y2.fst.Ticket y2.fst.Value))))))
 (.jump S_f2_12 D_f2_12 (X_f2_12.mk x.s_5 x.over_7 x.o_0)))
theorem sd_f2_3 (D_f2_3 : Dyn X_f2_3 RR_f2) (x : X_f2_3) : (tt_f2_3 D_f2_3 x).Sides :=
  (TT.sI (TT.sC fun _ => (TT.sN (TT.sI TT.sJ TT.sJ))) TT.sJ)
theorem roT_f2_3 (D_f2_3 : Dyn X_f2_3 RR_f2) (r_w17_agrees_3 : ∀ x y, D_f2_3.rel x y → p_f2 y = w_f2_3 x) (x : X_f2_3) : TT.Ro p_f2 (w_f2_3 x) (tt_f2_3 D_f2_3 x) :=
  (TT.rI (TT.rC fun _ => (TT.rN (TT.rI (TT.rJ (ro_f2_9 D_f2_3 r_w17_agrees_3 _)) (TT.rJ (ro_f2_9 D_f2_3 r_w17_agrees_3 _))))) (TT.rJ (ro_f2_12 _)))
noncomputable def D_f2_3 : Dyn X_f2_3 RR_f2 := Dyn.loop tt_f2_3
theorem ok_f2_3 : LabOK J_f2 S_f2_3 D_f2_3 :=
  loop_ok fun D_f2_3 h_3 => lbk mxk (lbc h_3 rfl (lbc ok_f2_18 rfl (lbc ok_f2_13 rfl (lbc ok_f2_12 rfl (lbc (ok_f2_11 D_f2_3 h_3) rfl (lbc (ok_f2_9 D_f2_3 h_3) rfl lbn)))))) 4000 (fun x => by kernel_rfl) (sd_f2_3 D_f2_3)
theorem ro_f2_3 : ∀ x y, D_f2_3.rel x y → p_f2 y = w_f2_3 x :=
  loop_ro fun D_f2_3 r_w17_agrees_3 => roT_f2_3 D_f2_3 r_w17_agrees_3
noncomputable def tt_f2 (x : X_f2) : TT Tryz.prog RR_f2 :=
 (.jump S_f2_3 D_f2_3 (X_f2_3.mk x.fst x.snd.fst true ((x.snd.fst.Threads.n : Nat) : Int) 0 x.snd.snd))
theorem sd_f2 (x : X_f2) : (tt_f2 x).Sides :=
  TT.sJ
theorem roT_f2 (x : X_f2) : TT.Ro p_f2 (w_f2 x) (tt_f2 x) :=
  (TT.rJ (ro_f2_3 _))
noncomputable def D_f2 : Dyn X_f2 R_f2 := .ro (.of tt_f2) (fun y => (y.1)) (fun y x => (y, x.2.2)) fun x y h => congrArg (fun o => (y.1, o)) (roT_f2 x y h)
noncomputable def con_f2 : Con Tryz.prog :=
  mkConP 30 J_f2 S_f2 (.of tt_f2) D_f2 (fun y x => (y, x.2.2)) (fun _ _ h => h) (fun y => V.bool y) 3 1 [.any, sh_TPg, sh_TSt] (by kernel_rfl) (by kernel_rfl) (by kernel_rfl) (lbk mxk (lbc ok_f2_18 rfl (lbc ok_f2_13 rfl (lbc ok_f2_12 rfl (lbc ok_f2_3 rfl lbn)))) 4000 (fun x => by kernel_rfl) sd_f2) rfl rfl (fun _ => rfl) (by kernel_rfl) rfl (fun _ _ => rfl) (fun _ => rfl) (fun x => ⟨(nu_e_TFa : ∀ y, (e_TFa y).NoU) (x.2.2), trivial⟩)
abbrev Dsl_TEv : Type := (Sl TEv)
def esl_TEv : Dsl_TEv → V := (eSl none 5 e_TEv)
def dsl_TEv : V → Dsl_TEv := (dSl d_TEv)
def hsl_TEv : Sh := (.sl none 5 (e_TEv (d_TEv .undef)))
abbrev X_f9 : Type := TPg × (Sl TEv)
abbrev R_f9 : Type := Bool
noncomputable def J_f9 : Job Tryz.prog :=
  job Tryz.prog Tryz.f8 67 [(2, 3), (26, 1), (35, 1), (44, 1), (63, 1)] [(5, [.open_ 5])] [] [] [.any] [] [con_f1z, con_f3, con_f19, con_f2e, con_f2l, con_fj, con_f2, con_f3i, con_f47] R_f9 [] fun y => [V.bool y]
noncomputable def S_f9 : LabS :=
  lab0 Tryz.f8 2 0 X_f9 (fun x => [e_TPg x.1, esl_TEv x.2]) fun l => (d_TPg (at_ l 0), dsl_TEv (at_ l 1))
structure X_f9_3 where
  l_1 : (Sl TEv)
  p_2 : TPg
noncomputable def S_f9_3 : LabS :=
  labAt Tryz.f8 3 [(1, hsl_TEv), (2, .any)] [] [] X_f9_3 (fun x => [esl_TEv x.l_1, (eVp e_TPg) x.p_2]) fun l => ⟨dsl_TEv (at_ l 0), (dVp d_TPg) (at_ l 1)⟩
structure X_f9_8 where
  p_2 : TPg
  q_35 : (Sl TEv)
  q_36 : Int
  q_37 : Int
  m_7 : TSt
  n_5 : TFa
noncomputable def S_f9_8 : LabS :=
  labAt Tryz.f8 8 [(2, .any), (5, .any), (7, .any), (35, hsl_TEv), (36, .any), (37, .any)] [] [(.loc 7 0, sh_TSt), (.loc 5 1, sh_TFa)] X_f9_8 (fun x => [(eVp e_TPg) x.p_2, (V.ptr (.loc 5 1) []), (V.ptr (.loc 7 0) []), esl_TEv x.q_35, (V.int .i64) x.q_36, (V.int .i64) x.q_37, e_TSt x.m_7, e_TFa x.n_5]) fun l => ⟨(dVp d_TPg) (at_ l 0), dsl_TEv (at_ l 3), dI (at_ l 4), dI (at_ l 5), d_TSt (at_ l 6), d_TFa (at_ l 7)⟩
structure X_f9_15 where
  p_2 : TPg
  q_35 : (Sl TEv)
  q_36 : Int
  q_37 : Int
  m_7 : TSt
  n_5 : TFa
noncomputable def S_f9_15 : LabS :=
  labAt Tryz.f8 15 [(2, .any), (5, .any), (7, .any), (35, hsl_TEv), (36, .any), (37, .any)] [] [(.loc 7 0, sh_TSt), (.loc 5 1, sh_TFa)] X_f9_15 (fun x => [(eVp e_TPg) x.p_2, (V.ptr (.loc 5 1) []), (V.ptr (.loc 7 0) []), esl_TEv x.q_35, (V.int .i64) x.q_36, (V.int .i64) x.q_37, e_TSt x.m_7, e_TFa x.n_5]) fun l => ⟨(dVp d_TPg) (at_ l 0), dsl_TEv (at_ l 3), dI (at_ l 4), dI (at_ l 5), d_TSt (at_ l 6), d_TFa (at_ l 7)⟩
structure X_f9_16 where
  p_2 : TPg
  m_7 : TSt
  n_5 : TFa
noncomputable def S_f9_16 : LabS :=
  labAt Tryz.f8 16 [(2, .any), (5, .any), (7, .any)] [] [(.loc 7 0, sh_TSt), (.loc 5 1, sh_TFa)] X_f9_16 (fun x => [(eVp e_TPg) x.p_2, (V.ptr (.loc 5 1) []), (V.ptr (.loc 7 0) []), e_TSt x.m_7, e_TFa x.n_5]) fun l => ⟨(dVp d_TPg) (at_ l 0), d_TSt (at_ l 3), d_TFa (at_ l 4)⟩
noncomputable def tt_f9_16 (x : X_f9_16) : TT Tryz.prog R_f9 :=
 (.call con_f2 (x.p_2, (x.m_7, x.n_5)) fun (y1 : R_f2) =>
 (.ret y1))
theorem sd_f9_16 (x : X_f9_16) : (tt_f9_16 x).Sides :=
  (TT.sC fun _ => TT.sR)
noncomputable def D_f9_16 : Dyn X_f9_16 R_f9 := .of tt_f9_16
theorem ok_f9_16 : LabOK J_f9 S_f9_16 D_f9_16 :=
  lbk mxk lbn 4000 (fun x => by kernel_rfl) sd_f9_16
noncomputable def tt_f9_15 (D_f9_8 : Dyn X_f9_8 R_f9) (x : X_f9_15) : TT Tryz.prog R_f9 :=
 (.jump S_f9_8 D_f9_8 (X_f9_8.mk x.p_2 x.q_35 x.q_36 (IntKind.i64.wrap (x.q_37 + 1)) x.m_7 x.n_5))
theorem sd_f9_15 (D_f9_8 : Dyn X_f9_8 R_f9) (x : X_f9_15) : (tt_f9_15 D_f9_8 x).Sides :=
  TT.sJ
noncomputable def D_f9_15 (D_f9_8 : Dyn X_f9_8 R_f9) : Dyn X_f9_15 R_f9 := .of (tt_f9_15 D_f9_8)
theorem ok_f9_15 (D_f9_8 : Dyn X_f9_8 R_f9) (h_8 : LabOK J_f9 S_f9_8 D_f9_8) : LabOK J_f9 S_f9_15 (D_f9_15 D_f9_8) :=
  lbk mxk (lbc h_8 rfl (lbc ok_f9_16 rfl lbn)) 4000 (fun x => by kernel_rfl) (sd_f9_15 D_f9_8)
noncomputable def tt_f9_8 (D_f9_8 : Dyn X_f9_8 R_f9) (x : X_f9_8) : TT Tryz.prog R_f9 :=
 (.ite (ilt x.q_37 x.q_36)
 (.need (inb x.q_37 x.q_35.n) <|
 (.call con_f1z ((x.q_35.get (Int.toNat x.q_37)), x.n_5) fun (y2 : R_f1z) =>
 (.call con_f2e (x.p_2, (x.m_7, (x.q_35.get (Int.toNat x.q_37)))) fun (y3 : R_f2e) =>
 (.ite (!(ieq y2.fst y3.fst))
 (.ret false)
 (.call con_f3 y2.snd fun (y4 : R_f3) =>
 (.call con_fj (y4, y3.snd) fun (y5 : R_fj) =>
 (.ite (!y5)
 (.ret false)
 (.jump S_f9_15 (D_f9_15 D_f9_8) (X_f9_15.mk x.p_2 x.q_35 x.q_36 x.q_37 y3.snd y2.snd)))))))))
 (.jump S_f9_16 D_f9_16 (X_f9_16.mk x.p_2 x.m_7 x.n_5)))
theorem sd_f9_8 (D_f9_8 : Dyn X_f9_8 R_f9) (x : X_f9_8) : (tt_f9_8 D_f9_8 x).Sides :=
  (TT.sI (TT.sN (TT.sC fun _ => (TT.sC fun _ => (TT.sI TT.sR (TT.sC fun _ => (TT.sC fun _ => (TT.sI TT.sR TT.sJ))))))) TT.sJ)
noncomputable def D_f9_8 : Dyn X_f9_8 R_f9 := Dyn.loop tt_f9_8
theorem ok_f9_8 : LabOK J_f9 S_f9_8 D_f9_8 :=
  loop_ok fun D_f9_8 h_8 => lbk mxk (lbc h_8 rfl (lbc ok_f9_16 rfl (lbc (ok_f9_15 D_f9_8 h_8) rfl lbn))) 4000 (fun x => by kernel_rfl) (sd_f9_8 D_f9_8)
noncomputable def tt_f9_3 (x : X_f9_3) : TT Tryz.prog R_f9 :=
 (.call con_f19 x.p_2 fun (y1 : R_f19) =>
 (.call con_f2l x.p_2 fun (y2 : R_f2l) =>
 (.need (!y1.fst.nil) <|
 (.jump S_f9_8 D_f9_8 (X_f9_8.mk x.p_2 x.l_1 ((x.l_1.n : Nat) : Int) 0 y2 y1.fst.x)))))
theorem sd_f9_3 (x : X_f9_3) : (tt_f9_3 x).Sides :=
  (TT.sC fun _ => (TT.sC fun _ => (TT.sN TT.sJ)))
noncomputable def D_f9_3 : Dyn X_f9_3 R_f9 := .of tt_f9_3
theorem ok_f9_3 : LabOK J_f9 S_f9_3 D_f9_3 :=
  lbk mxk (lbc ok_f9_16 rfl (lbc ok_f9_8 rfl lbn)) 4000 (fun x => by kernel_rfl) sd_f9_3
noncomputable def tt_f9 (x : X_f9) : TT Tryz.prog R_f9 :=
 (.call con_f3i PUnit.unit fun (y1 : R_f3i) =>
 (.ite (!y1)
 (.call con_f3i PUnit.unit fun (y2 : R_f3i) =>
 (.ret y2))
 (.call con_f47 x.fst fun (y2 : R_f47) =>
 (.ite (!y2)
 (.call con_f3i PUnit.unit fun (y3 : R_f3i) =>
 (.ret y3))
 (.ite (ilt 80 ((x.snd.n : Nat) : Int))
 (.call con_f3i PUnit.unit fun (y3 : R_f3i) =>
 (.ret y3))
 (.jump S_f9_3 D_f9_3 (X_f9_3.mk x.snd x.fst)))))))
theorem sd_f9 (x : X_f9) : (tt_f9 x).Sides :=
  (TT.sC fun _ => (TT.sI (TT.sC fun _ => TT.sR) (TT.sC fun _ => (TT.sI (TT.sC fun _ => TT.sR) (TT.sI (TT.sC fun _ => TT.sR) TT.sJ)))))
noncomputable def D_f9 : Dyn X_f9 R_f9 := .of tt_f9
noncomputable def con_f9 : Con Tryz.prog :=
  mkCon 8 J_f9 S_f9 D_f9 D_f9 (fun _ _ h => h) 2 0 [sh_TPg, hsl_TEv] (by kernel_rfl) (by kernel_rfl) (by kernel_rfl) (lbk mxk (lbc ok_f9_16 rfl (lbc ok_f9_8 rfl (lbc ok_f9_3 rfl lbn))) 4000 (fun x => by kernel_rfl) sd_f9) rfl rfl (fun _ => rfl) (by kernel_rfl) rfl (fun _ => rfl) (fun x y _ => by kernel_rfl)
end Go.Proofs.YtiplcdhnjennfaaGreat
