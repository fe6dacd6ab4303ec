/- What functions of the program come to, part B: no statement is proved here. -/
import Derived.Test.YtiplcdhnjennfaaGreatGA
namespace Go.Proofs.YtiplcdhnjennfaaGreat
open Go Go.Vm Go.Proofs
set_option maxRecDepth 100000
abbrev X_f1 : Type := TSo × TRr
abbrev R_f1 : Type := Bool
abbrev RR_f1 : Type := Bool × TRr
abbrev p_f1 (y : RR_f1) : TRr := y.2
abbrev w_f1 (x : X_f1) : TRr := x.2
noncomputable def J_f1 : Job Tryz.prog :=
  job Tryz.prog Tryz.f128 74 [(3, 3)] [(9, [.back (.loc 30 0)]), (11, [.back (.loc 30 0)]), (13, [.back (.loc 30 0)])] [] [.back (.loc 30 0)] [.any] [sh_TRr] [] RR_f1 [(6, [⟨.loc 30 0, .par 0, [.fld 0 0, .fld 1 1], none, none⟩]), (12, [⟨.loc 30 0, .par 0, [.fld 0 0, .fld 1 1], none, none⟩])] fun y => [V.bool y.1, e_TRr y.2]
noncomputable def S_f1 : LabS :=
  lab0 Tryz.f128 2 1 X_f1 (fun x => [(V.ptr (.par 0) []), e_TSo x.1, e_TRr x.2]) fun l => (d_TSo (at_ l 1), d_TRr (at_ l 2))
structure X_f1_5 where
  x_3 : TSo
  t_5 : Int
  held_6 : Bool
  o_0 : TRr
noncomputable def S_f1_5 : LabS :=
  labAt Tryz.f128 5 [(0, .any), (3, .any), (5, .any), (6, .any)] [sh_TRr] [] X_f1_5 (fun x => [(V.ptr (.par 0) []), (eVp e_TSo) x.x_3, (V.int .u64) x.t_5, V.bool x.held_6, e_TRr x.o_0]) fun l => ⟨(dVp d_TSo) (at_ l 1), dI (at_ l 2), dB (at_ l 3), d_TRr (at_ l 4)⟩
structure X_f1_6 where
  x_3 : TSo
  t_5 : Int
  held_6 : Bool
  q_31 : Int
  q_32 : Int
  o_0 : TRr
noncomputable def S_f1_6 : LabS :=
  labAt Tryz.f128 6 [(0, .any), (3, .any), (5, .any), (6, .any), (30, .any), (31, .any), (32, .any)] [sh_TRr] [(.loc 30 0, .any)] X_f1_6 (fun x => [(V.ptr (.par 0) []), (eVp e_TSo) x.x_3, (V.int .u64) x.t_5, V.bool x.held_6, (V.own (.loc 30 0) [] 1 x.o_0.cursors.heads.n 0 x.o_0.cursors.heads.n), (V.int .i64) x.q_31, (V.int .i64) x.q_32, V.cons (V.cons ((V.int .u64) x.o_0.cursors.tail) (V.cons (V.lent (.loc 30 0) 35 1 x.o_0.cursors.heads.nil x.o_0.cursors.heads.n) (V.unit))) (V.cons (ebox_TSs x.o_0.s) (V.cons ((V.int .u64) x.o_0.most) (V.cons (V.bool x.o_0.closed) (V.unit)))), (V.arr 1 x.o_0.cursors.heads.n fun i => (V.int .u64) (x.o_0.cursors.heads.get i))]) fun l => ⟨(dVp d_TSo) (at_ l 1), dI (at_ l 2), dB (at_ l 3), dI (at_ l 5), dI (at_ l 6), { d_TRr (at_ l 7) with cursors.heads := ⟨(dLn (fd (fd (at_ l 7) 0) 1)).nil, (dLn (fd (fd (at_ l 7) 0) 1)).n, (dAr dI (at_ l 8)).get⟩ }⟩
structure X_f1_12 where
  x_3 : TSo
  t_5 : Int
  held_6 : Bool
  q_31 : Int
  q_32 : Int
  o_0 : TRr
noncomputable def S_f1_12 : LabS :=
  labAt Tryz.f128 12 [(0, .any), (3, .any), (5, .any), (6, .any), (30, .any), (31, .any), (32, .any)] [sh_TRr] [(.loc 30 0, .any)] X_f1_12 (fun x => [(V.ptr (.par 0) []), (eVp e_TSo) x.x_3, (V.int .u64) x.t_5, V.bool x.held_6, (V.own (.loc 30 0) [] 1 x.o_0.cursors.heads.n 0 x.o_0.cursors.heads.n), (V.int .i64) x.q_31, (V.int .i64) x.q_32, V.cons (V.cons ((V.int .u64) x.o_0.cursors.tail) (V.cons (V.lent (.loc 30 0) 35 1 x.o_0.cursors.heads.nil x.o_0.cursors.heads.n) (V.unit))) (V.cons (ebox_TSs x.o_0.s) (V.cons ((V.int .u64) x.o_0.most) (V.cons (V.bool x.o_0.closed) (V.unit)))), (V.arr 1 x.o_0.cursors.heads.n fun i => (V.int .u64) (x.o_0.cursors.heads.get i))]) fun l => ⟨(dVp d_TSo) (at_ l 1), dI (at_ l 2), dB (at_ l 3), dI (at_ l 5), dI (at_ l 6), { d_TRr (at_ l 7) with cursors.heads := ⟨(dLn (fd (fd (at_ l 7) 0) 1)).nil, (dLn (fd (fd (at_ l 7) 0) 1)).n, (dAr dI (at_ l 8)).get⟩ }⟩
abbrev w_f1_5 (x : X_f1_5) : TRr := (x.o_0)
abbrev w_f1_6 (x : X_f1_6) : TRr := (x.o_0)
abbrev w_f1_12 (x : X_f1_12) : TRr := (x.o_0)
noncomputable def tt_f1_12 (D_f1_6 : Dyn X_f1_6 RR_f1) (x : X_f1_12) : TT Tryz.prog RR_f1 :=
 (.jump S_f1_6 D_f1_6 (X_f1_6.mk x.x_3 x.t_5 x.held_6 x.q_31 (IntKind.i64.wrap (x.q_32 + 1)) x.o_0))
theorem sd_f1_12 (D_f1_6 : Dyn X_f1_6 RR_f1) (x : X_f1_12) : (tt_f1_12 D_f1_6 x).Sides :=
  TT.sJ
theorem roT_f1_12 (D_f1_6 : Dyn X_f1_6 RR_f1) (r_ring_Ring_stands_6 : ∀ x y, D_f1_6.rel x y → p_f1 y = w_f1_6 x) (x : X_f1_12) : TT.Ro p_f1 (w_f1_12 x) (tt_f1_12 D_f1_6 x) :=
  (TT.rJ (r_ring_Ring_stands_6 _))
noncomputable def D_f1_12 (D_f1_6 : Dyn X_f1_6 RR_f1) : Dyn X_f1_12 RR_f1 := .of (tt_f1_12 D_f1_6)
theorem ok_f1_12 (D_f1_6 : Dyn X_f1_6 RR_f1) (h_6 : LabOK J_f1 S_f1_6 D_f1_6) : LabOK J_f1 S_f1_12 (D_f1_12 D_f1_6) :=
  lbk mxk (lbc h_6 rfl lbn) 4000 (fun x => by kernel_rfl) (sd_f1_12 D_f1_6)
theorem ro_f1_12 (D_f1_6 : Dyn X_f1_6 RR_f1) (r_ring_Ring_stands_6 : ∀ x y, D_f1_6.rel x y → p_f1 y = w_f1_6 x) : ∀ x y, (D_f1_12 D_f1_6).rel x y → p_f1 y = w_f1_12 x :=
  roT_f1_12 D_f1_6 r_ring_Ring_stands_6
noncomputable def tt_f1_6 (D_f1_6 : Dyn X_f1_6 RR_f1) (x : X_f1_6) : TT Tryz.prog RR_f1 :=
 (.ite (ilt x.q_32 x.q_31)
 (.need (inb x.q_32 x.o_0.cursors.heads.n) <|
 (.need ((Nat.beq x.o_0.cursors.heads.n x.o_0.cursors.heads.n) && true) <|
 (.ite x.held_6
 (.need (ile 0 x.q_32) <|
 (.ite (ieq (Vm.bits .and IntKind.i64 (shr IntKind.i64 x.x_3.Left x.q_32) 1) 0)
 (.ite (ile (x.o_0.cursors.heads.get ((0 : Nat) + (Int.toNat x.q_32))) x.t_5)
 (.need ((true && true) && (Nat.beq x.o_0.cursors.heads.n x.o_0.cursors.heads.n)) <|
 (.ret (false, x.o_0)))
 (.ite (!x.held_6)
 (.ite (ile x.o_0.most x.t_5)
 (.ite (ile (x.o_0.cursors.heads.get ((0 : Nat) + (Int.toNat x.q_32))) (IntKind.u64.wrap (x.t_5 - x.o_0.most)))
 (.need ((true && true) && (Nat.beq x.o_0.cursors.heads.n x.o_0.cursors.heads.n)) <|
 (.ret (false, x.o_0)))
 (.jump S_f1_12 (D_f1_12 D_f1_6) (X_f1_12.mk x.x_3 x.t_5 x.held_6 x.q_31 x.q_32 x.o_0)))
 (.jump S_f1_12 (D_f1_12 D_f1_6) (X_f1_12.mk x.x_3 x.t_5 x.held_6 x.q_31 x.q_32 x.o_0)))
 (.jump S_f1_12 (D_f1_12 D_f1_6) (X_f1_12.mk x.x_3 x.t_5 x.held_6 x.q_31 x.q_32 x.o_0))))
 (.ite (!x.held_6)
 (.ite (ile x.o_0.most x.t_5)
 (.ite (ile (x.o_0.cursors.heads.get ((0 : Nat) + (Int.toNat x.q_32))) (IntKind.u64.wrap (x.t_5 - x.o_0.most)))
 (.need ((true && true) && (Nat.beq x.o_0.cursors.heads.n x.o_0.cursors.heads.n)) <|
 (.ret (false, x.o_0)))
 (.jump S_f1_12 (D_f1_12 D_f1_6) (X_f1_12.mk x.x_3 x.t_5 x.held_6 x.q_31 x.q_32 x.o_0)))
 (.jump S_f1_12 (D_f1_12 D_f1_6) (X_f1_12.mk x.x_3 x.t_5 x.held_6 x.q_31 x.q_32 x.o_0)))
 (.jump S_f1_12 (D_f1_12 D_f1_6) (X_f1_12.mk x.x_3 x.t_5 x.held_6 x.q_31 x.q_32 x.o_0)))))
 (.ite (!x.held_6)
 (.ite (ile x.o_0.most x.t_5)
 (.ite (ile (x.o_0.cursors.heads.get ((0 : Nat) + (Int.toNat x.q_32))) (IntKind.u64.wrap (x.t_5 - x.o_0.most)))
 (.need ((true && true) && (Nat.beq x.o_0.cursors.heads.n x.o_0.cursors.heads.n)) <|
 (.ret (false, x.o_0)))
 (.jump S_f1_12 (D_f1_12 D_f1_6) (X_f1_12.mk x.x_3 x.t_5 x.held_6 x.q_31 x.q_32 x.o_0)))
 (.jump S_f1_12 (D_f1_12 D_f1_6) (X_f1_12.mk x.x_3 x.t_5 x.held_6 x.q_31 x.q_32 x.o_0)))
 (.jump S_f1_12 (D_f1_12 D_f1_6) (X_f1_12.mk x.x_3 x.t_5 x.held_6 x.q_31 x.q_32 x.o_0))))))
 (.need ((true && true) && (Nat.beq x.o_0.cursors.heads.n x.o_0.cursors.heads.n)) <|
 (.ret (true, x.o_0))))
theorem sd_f1_6 (D_f1_6 : Dyn X_f1_6 RR_f1) (x : X_f1_6) : (tt_f1_6 D_f1_6 x).Sides :=
  (TT.sI (TT.sN (TT.sN (TT.sI (TT.sN (TT.sI (TT.sI (TT.sN TT.sR) (TT.sI (TT.sI (TT.sI (TT.sN TT.sR) TT.sJ) TT.sJ) TT.sJ)) (TT.sI (TT.sI (TT.sI (TT.sN TT.sR) TT.sJ) TT.sJ) TT.sJ))) (TT.sI (TT.sI (TT.sI (TT.sN TT.sR) TT.sJ) TT.sJ) TT.sJ)))) (TT.sN TT.sR))
theorem roT_f1_6 (D_f1_6 : Dyn X_f1_6 RR_f1) (r_ring_Ring_stands_6 : ∀ x y, D_f1_6.rel x y → p_f1 y = w_f1_6 x) (x : X_f1_6) : TT.Ro p_f1 (w_f1_6 x) (tt_f1_6 D_f1_6 x) :=
  (TT.rI (TT.rN (TT.rN (TT.rI (TT.rN (TT.rI (TT.rI (TT.rN (TT.rR rfl)) (TT.rI (TT.rI (TT.rI (TT.rN (TT.rR rfl)) (TT.rJ (ro_f1_12 D_f1_6 r_ring_Ring_stands_6 _))) (TT.rJ (ro_f1_12 D_f1_6 r_ring_Ring_stands_6 _))) (TT.rJ (ro_f1_12 D_f1_6 r_ring_Ring_stands_6 _)))) (TT.rI (TT.rI (TT.rI (TT.rN (TT.rR rfl)) (TT.rJ (ro_f1_12 D_f1_6 r_ring_Ring_stands_6 _))) (TT.rJ (ro_f1_12 D_f1_6 r_ring_Ring_stands_6 _))) (TT.rJ (ro_f1_12 D_f1_6 r_ring_Ring_stands_6 _))))) (TT.rI (TT.rI (TT.rI (TT.rN (TT.rR rfl)) (TT.rJ (ro_f1_12 D_f1_6 r_ring_Ring_stands_6 _))) (TT.rJ (ro_f1_12 D_f1_6 r_ring_Ring_stands_6 _))) (TT.rJ (ro_f1_12 D_f1_6 r_ring_Ring_stands_6 _)))))) (TT.rN (TT.rR rfl)))
noncomputable def D_f1_6 : Dyn X_f1_6 RR_f1 := Dyn.loop tt_f1_6
theorem ok_f1_6 : LabOK J_f1 S_f1_6 D_f1_6 :=
  loop_ok fun D_f1_6 h_6 => lbk mxk (lbc h_6 rfl (lbc (ok_f1_12 D_f1_6 h_6) rfl lbn)) 4000 (fun x => by kernel_rfl) (sd_f1_6 D_f1_6)
theorem ro_f1_6 : ∀ x y, D_f1_6.rel x y → p_f1 y = w_f1_6 x :=
  loop_ro fun D_f1_6 r_ring_Ring_stands_6 => roT_f1_6 D_f1_6 r_ring_Ring_stands_6
noncomputable def tt_f1_5 (x : X_f1_5) : TT Tryz.prog RR_f1 :=
 (.jump S_f1_6 D_f1_6 (X_f1_6.mk x.x_3 x.t_5 x.held_6 ((x.o_0.cursors.heads.n : Nat) : Int) 0 x.o_0))
theorem sd_f1_5 (x : X_f1_5) : (tt_f1_5 x).Sides :=
  TT.sJ
theorem roT_f1_5 (x : X_f1_5) : TT.Ro p_f1 (w_f1_5 x) (tt_f1_5 x) :=
  (TT.rJ (ro_f1_6 _))
noncomputable def D_f1_5 : Dyn X_f1_5 RR_f1 := .of tt_f1_5
theorem ok_f1_5 : LabOK J_f1 S_f1_5 D_f1_5 :=
  lbk mxk (lbc ok_f1_6 rfl lbn) 4000 (fun x => by kernel_rfl) sd_f1_5
theorem ro_f1_5 : ∀ x y, D_f1_5.rel x y → p_f1 y = w_f1_5 x :=
  roT_f1_5 
noncomputable def tt_f1 (x : X_f1) : TT Tryz.prog RR_f1 :=
 (.ite (ieq (Int.tmod x.fst.Stamp 2) 1)
 (.ite (ile x.snd.cursors.tail (IntKind.u64.wrap (Int.tdiv x.fst.Stamp 2)))
 (.ret (false, x.snd))
 (.jump S_f1_5 D_f1_5 (X_f1_5.mk x.fst (IntKind.u64.wrap (Int.tdiv x.fst.Stamp 2)) (ieq (Int.tmod x.fst.Stamp 2) 1) x.snd)))
 (.jump S_f1_5 D_f1_5 (X_f1_5.mk x.fst (IntKind.u64.wrap (Int.tdiv x.fst.Stamp 2)) (ieq (Int.tmod x.fst.Stamp 2) 1) x.snd)))
theorem sd_f1 (x : X_f1) : (tt_f1 x).Sides :=
  (TT.sI (TT.sI TT.sR TT.sJ) TT.sJ)
theorem roT_f1 (x : X_f1) : TT.Ro p_f1 (w_f1 x) (tt_f1 x) :=
  (TT.rI (TT.rI (TT.rR rfl) (TT.rJ (ro_f1_5 _))) (TT.rJ (ro_f1_5 _)))
noncomputable def D_f1 : Dyn X_f1 R_f1 := .ro (.of tt_f1) (fun y => (y.1)) (fun y x => (y, x.2)) fun x y h => congrArg (fun o => (y.1, o)) (roT_f1 x y h)
noncomputable def con_f1 : Con Tryz.prog :=
  mkConP 128 J_f1 S_f1 (.of tt_f1) D_f1 (fun y x => (y, x.2)) (fun _ _ h => h) (fun y => V.bool y) 2 1 [.any, .any] (by kernel_rfl) (by kernel_rfl) (by kernel_rfl) (lbk mxk (lbc ok_f1_6 rfl (lbc ok_f1_5 rfl lbn)) 4000 (fun x => by kernel_rfl) sd_f1) rfl rfl (fun _ => rfl) (by kernel_rfl) rfl (fun _ _ => rfl) (fun _ => rfl) (fun x => ⟨(nu_e_TRr : ∀ y, (e_TRr y).NoU) (x.2), trivial⟩)
abbrev X_f1x : Type := (Sl Int)
abbrev R_f1x : Type := (Sl Int)
noncomputable def J_f1x : Job Tryz.prog :=
  job Tryz.prog Tryz.f53 8 [(5, 1), (6, 1)] [] [] [.shut 2] [hosl_u64] [] [] R_f1x [] fun y => [eosl_u64 y]
noncomputable def S_f1x : LabS :=
  lab0 Tryz.f53 1 0 X_f1x (fun x => [esl_u64 x]) fun l => (dsl_u64 (at_ l 0))
noncomputable def tt_f1x (x : X_f1x) : TT Tryz.prog R_f1x :=
 (.ite x.nil
 (.ret (Sl.mk true 0 (fun _i1 => (0 : Int))))
 (.need (true && (room ((0 : Nat) + x.n) 8)) <|
 (.ret (Sl.mk (cond (Nat.beq x.n 0) false false) ((0 : Nat) + x.n) (fun i1 => (cond (Nat.blt i1 0) (0 : Int) (x.get (i1 - 0))))))))
theorem sd_f1x (x : X_f1x) : (tt_f1x x).Sides :=
  (TT.sI TT.sR (TT.sN TT.sR))
noncomputable def D_f1x : Dyn X_f1x R_f1x := .of tt_f1x
noncomputable def con_f1x : Con Tryz.prog :=
  mkCon 53 J_f1x S_f1x D_f1x D_f1x (fun _ _ h => h) 1 0 [hsl_u64] (by kernel_rfl) (by kernel_rfl) (by kernel_rfl) (lbk mxk lbn 4000 (fun x => by kernel_rfl) sd_f1x) rfl rfl (fun _ => rfl) (by kernel_rfl) rfl (fun _ => rfl) (fun x y _ => by kernel_rfl)
abbrev X_fd : Type := TRg × TRs
abbrev R_fd : Type := (Bx TRr) × Int
noncomputable def J_fd : Job Tryz.prog :=
  job Tryz.prog Tryz.f75 113 [(2, 3), (3, 3), (13, 1), (21, 1), (57, 1), (112, 1)] [(7, [.open_ 6]), (12, [.close (.loc 72 0)]), (14, [.close (.loc 72 0)]), (15, [.close (.loc 72 0)]), (16, [.close (.loc 72 0)]), (17, [.close (.loc 72 0)]), (18, [.close (.loc 72 0)]), (19, [.close (.loc 72 0)]), (20, [.close (.loc 72 0)])] [] [.close (.loc 72 0), .shut 4] [hbox_TRr, .any] [] [con_f2p, con_f1, con_f1x, con_fy] R_fd [(9, [⟨.loc 72 0, .loc 6 1, [.fld 0 0, .fld 1 1], none, none⟩]), (13, [⟨.loc 72 0, .loc 6 1, [.fld 0 0, .fld 1 1], none, none⟩])] fun y => [V.tup (V.cons (ebox_TRr y.1) (V.cons ((V.int .i64) y.2) (V.unit)))]
noncomputable def S_fd : LabS :=
  lab0 Tryz.f75 2 0 X_fd (fun x => [e_TRg x.1, e_TRs x.2]) fun l => (d_TRg (at_ l 0), d_TRs (at_ l 1))
structure X_fd_7 where
  s_3 : TRs
  l_8 : (Bx TSs)
  n_6 : TRr
noncomputable def S_fd_7 : LabS :=
  labAt Tryz.f75 7 [(3, .any), (6, .any), (8, hbox_TSs)] [] [(.loc 6 1, sh_TRr)] X_fd_7 (fun x => [(eVp e_TRs) x.s_3, (V.ptr (.loc 6 1) []), ebox_TSs x.l_8, e_TRr x.n_6]) fun l => ⟨(dVp d_TRs) (at_ l 0), dbox_TSs (at_ l 2), d_TRr (at_ l 3)⟩
structure X_fd_9 where
  s_3 : TRs
  q_73 : Int
  q_74 : Int
  n_6 : TRr
noncomputable def S_fd_9 : LabS :=
  labAt Tryz.f75 9 [(3, .any), (6, .any), (72, .any), (73, .any), (74, .any)] [] [(.loc 6 1, sh_TRr), (.loc 72 0, .any)] X_fd_9 (fun x => [(eVp e_TRs) x.s_3, (V.ptr (.loc 6 1) []), (V.own (.loc 72 0) [] 1 x.n_6.cursors.heads.n 0 x.n_6.cursors.heads.n), (V.int .i64) x.q_73, (V.int .i64) x.q_74, V.cons (V.cons ((V.int .u64) x.n_6.cursors.tail) (V.cons (V.lent (.loc 72 0) 35 1 x.n_6.cursors.heads.nil x.n_6.cursors.heads.n) (V.unit))) (V.cons (ebox_TSs x.n_6.s) (V.cons ((V.int .u64) x.n_6.most) (V.cons (V.bool x.n_6.closed) (V.unit)))), (V.arr 1 x.n_6.cursors.heads.n fun i => (V.int .u64) (x.n_6.cursors.heads.get i))]) fun l => ⟨(dVp d_TRs) (at_ l 0), dI (at_ l 3), dI (at_ l 4), { d_TRr (at_ l 5) with cursors.heads := ⟨(dLn (fd (fd (at_ l 5) 0) 1)).nil, (dLn (fd (fd (at_ l 5) 0) 1)).n, (dAr dI (at_ l 6)).get⟩ }⟩
structure X_fd_13 where
  s_3 : TRs
  q_73 : Int
  q_74 : Int
  n_6 : TRr
noncomputable def S_fd_13 : LabS :=
  labAt Tryz.f75 13 [(3, .any), (6, .any), (72, .any), (73, .any), (74, .any)] [] [(.loc 6 1, sh_TRr), (.loc 72 0, .any)] X_fd_13 (fun x => [(eVp e_TRs) x.s_3, (V.ptr (.loc 6 1) []), (V.own (.loc 72 0) [] 1 x.n_6.cursors.heads.n 0 x.n_6.cursors.heads.n), (V.int .i64) x.q_73, (V.int .i64) x.q_74, V.cons (V.cons ((V.int .u64) x.n_6.cursors.tail) (V.cons (V.lent (.loc 72 0) 35 1 x.n_6.cursors.heads.nil x.n_6.cursors.heads.n) (V.unit))) (V.cons (ebox_TSs x.n_6.s) (V.cons ((V.int .u64) x.n_6.most) (V.cons (V.bool x.n_6.closed) (V.unit)))), (V.arr 1 x.n_6.cursors.heads.n fun i => (V.int .u64) (x.n_6.cursors.heads.get i))]) fun l => ⟨(dVp d_TRs) (at_ l 0), dI (at_ l 3), dI (at_ l 4), { d_TRr (at_ l 5) with cursors.heads := ⟨(dLn (fd (fd (at_ l 5) 0) 1)).nil, (dLn (fd (fd (at_ l 5) 0) 1)).n, (dAr dI (at_ l 6)).get⟩ }⟩
structure X_fd_14 where
  s_3 : TRs
  n_6 : TRr
noncomputable def S_fd_14 : LabS :=
  labAt Tryz.f75 14 [(3, .any), (6, .any)] [] [(.loc 6 1, sh_TRr)] X_fd_14 (fun x => [(eVp e_TRs) x.s_3, (V.ptr (.loc 6 1) []), e_TRr x.n_6]) fun l => ⟨(dVp d_TRs) (at_ l 0), d_TRr (at_ l 2)⟩
structure X_fd_15 where
  q_101 : (Sl TSo)
  q_102 : Int
  q_103 : Int
  n_6 : TRr
noncomputable def S_fd_15 : LabS :=
  labAt Tryz.f75 15 [(6, .any), (101, hsl_TSo), (102, .any), (103, .any)] [] [(.loc 6 1, sh_TRr)] X_fd_15 (fun x => [(V.ptr (.loc 6 1) []), esl_TSo x.q_101, (V.int .i64) x.q_102, (V.int .i64) x.q_103, e_TRr x.n_6]) fun l => ⟨dsl_TSo (at_ l 1), dI (at_ l 2), dI (at_ l 3), d_TRr (at_ l 4)⟩
noncomputable def tt_fd_15 (D_fd_15 : Dyn X_fd_15 R_fd) (x : X_fd_15) : TT Tryz.prog R_fd :=
 (.ite (ilt x.q_103 x.q_102)
 (.need (inb x.q_103 x.q_101.n) <|
 (.call con_f1 ((x.q_101.get (Int.toNat x.q_103)), x.n_6) fun (y2 : R_f1) =>
 (.ite (!y2)
 (.ret ((Bx.mk true (TRr.mk (TRc.mk 0 (Sl.mk true 0 (fun _i3 => (0 : Int)))) (Bx.mk true (TSs.mk (Sl.mk true 0 (fun _i3 => (TSo.mk 0 0 0))) 0)) 0 false)), 3))
 (.jump S_fd_15 D_fd_15 (X_fd_15.mk x.q_101 x.q_102 (IntKind.i64.wrap (x.q_103 + 1)) x.n_6)))))
 (.ret ((Bx.mk false x.n_6), 0)))
theorem sd_fd_15 (D_fd_15 : Dyn X_fd_15 R_fd) (x : X_fd_15) : (tt_fd_15 D_fd_15 x).Sides :=
  (TT.sI (TT.sN (TT.sC fun _ => (TT.sI TT.sR TT.sJ))) TT.sR)
noncomputable def D_fd_15 : Dyn X_fd_15 R_fd := Dyn.loop tt_fd_15
theorem ok_fd_15 : LabOK J_fd S_fd_15 D_fd_15 :=
  loop_ok fun D_fd_15 h_15 => lbk mxk (lbc h_15 rfl lbn) 4000 (fun x => by kernel_rfl) (sd_fd_15 D_fd_15)
noncomputable def tt_fd_14 (x : X_fd_14) : TT Tryz.prog R_fd :=
 (.jump S_fd_15 D_fd_15 (X_fd_15.mk x.s_3.Slots ((x.s_3.Slots.n : Nat) : Int) 0 x.n_6))
theorem sd_fd_14 (x : X_fd_14) : (tt_fd_14 x).Sides :=
  TT.sJ
noncomputable def D_fd_14 : Dyn X_fd_14 R_fd := .of tt_fd_14
theorem ok_fd_14 : LabOK J_fd S_fd_14 D_fd_14 :=
  lbk mxk (lbc ok_fd_15 rfl lbn) 4000 (fun x => by kernel_rfl) sd_fd_14
noncomputable def tt_fd_13 (D_fd_9 : Dyn X_fd_9 R_fd) (x : X_fd_13) : TT Tryz.prog R_fd :=
 (.jump S_fd_9 D_fd_9 (X_fd_9.mk x.s_3 x.q_73 (IntKind.i64.wrap (x.q_74 + 1)) x.n_6))
theorem sd_fd_13 (D_fd_9 : Dyn X_fd_9 R_fd) (x : X_fd_13) : (tt_fd_13 D_fd_9 x).Sides :=
  TT.sJ
noncomputable def D_fd_13 (D_fd_9 : Dyn X_fd_9 R_fd) : Dyn X_fd_13 R_fd := .of (tt_fd_13 D_fd_9)
theorem ok_fd_13 (D_fd_9 : Dyn X_fd_9 R_fd) (h_9 : LabOK J_fd S_fd_9 D_fd_9) : LabOK J_fd S_fd_13 (D_fd_13 D_fd_9) :=
  lbk mxk (lbc h_9 rfl (lbc ok_fd_15 rfl (lbc ok_fd_14 rfl lbn))) 4000 (fun x => by kernel_rfl) (sd_fd_13 D_fd_9)
noncomputable def tt_fd_9 (D_fd_9 : Dyn X_fd_9 R_fd) (x : X_fd_9) : TT Tryz.prog R_fd :=
 (.ite (ilt x.q_74 x.q_73)
 (.need (inb x.q_74 x.n_6.cursors.heads.n) <|
 (.need ((Nat.beq x.n_6.cursors.heads.n x.n_6.cursors.heads.n) && true) <|
 (.ite (ilt x.n_6.cursors.tail (x.n_6.cursors.heads.get ((0 : Nat) + (Int.toNat x.q_74))))
 (.need ((true && true) && (Nat.beq x.n_6.cursors.heads.n x.n_6.cursors.heads.n)) <|
 (.ret ((Bx.mk true (TRr.mk (TRc.mk 0 (Sl.mk true 0 (fun _i2 => (0 : Int)))) (Bx.mk true (TSs.mk (Sl.mk true 0 (fun _i2 => (TSo.mk 0 0 0))) 0)) 0 false)), 3)))
 (.ite (ilt x.n_6.most (IntKind.u64.wrap (x.n_6.cursors.tail - (x.n_6.cursors.heads.get ((0 : Nat) + (Int.toNat x.q_74))))))
 (.need ((true && true) && (Nat.beq x.n_6.cursors.heads.n x.n_6.cursors.heads.n)) <|
 (.ret ((Bx.mk true (TRr.mk (TRc.mk 0 (Sl.mk true 0 (fun _i2 => (0 : Int)))) (Bx.mk true (TSs.mk (Sl.mk true 0 (fun _i2 => (TSo.mk 0 0 0))) 0)) 0 false)), 3)))
 (.jump S_fd_13 (D_fd_13 D_fd_9) (X_fd_13.mk x.s_3 x.q_73 x.q_74 x.n_6))))))
 (.need ((true && true) && (Nat.beq x.n_6.cursors.heads.n x.n_6.cursors.heads.n)) <|
 (.jump S_fd_14 D_fd_14 (X_fd_14.mk x.s_3 x.n_6))))
theorem sd_fd_9 (D_fd_9 : Dyn X_fd_9 R_fd) (x : X_fd_9) : (tt_fd_9 D_fd_9 x).Sides :=
  (TT.sI (TT.sN (TT.sN (TT.sI (TT.sN TT.sR) (TT.sI (TT.sN TT.sR) TT.sJ)))) (TT.sN TT.sJ))
noncomputable def D_fd_9 : Dyn X_fd_9 R_fd := Dyn.loop tt_fd_9
theorem ok_fd_9 : LabOK J_fd S_fd_9 D_fd_9 :=
  loop_ok fun D_fd_9 h_9 => lbk mxk (lbc h_9 rfl (lbc ok_fd_15 rfl (lbc ok_fd_14 rfl (lbc (ok_fd_13 D_fd_9 h_9) rfl lbn)))) 4000 (fun x => by kernel_rfl) (sd_fd_9 D_fd_9)
noncomputable def tt_fd_7 (x : X_fd_7) : TT Tryz.prog R_fd :=
 (.call con_f1x x.s_3.Heads fun (y1 : R_f1x) =>
 (.jump S_fd_9 D_fd_9 (X_fd_9.mk x.s_3 ((y1.n : Nat) : Int) 0 (TRr.mk (TRc.mk x.s_3.Tail y1) x.l_8 x.n_6.most x.s_3.Closed))))
theorem sd_fd_7 (x : X_fd_7) : (tt_fd_7 x).Sides :=
  (TT.sC fun _ => TT.sJ)
noncomputable def D_fd_7 : Dyn X_fd_7 R_fd := .of tt_fd_7
theorem ok_fd_7 : LabOK J_fd S_fd_7 D_fd_7 :=
  lbk mxk (lbc ok_fd_15 rfl (lbc ok_fd_14 rfl (lbc ok_fd_9 rfl lbn))) 4000 (fun x => by kernel_rfl) sd_fd_7
noncomputable def tt_fd (x : X_fd) : TT Tryz.prog R_fd :=
 (.call con_f2p x.fst fun (y1 : R_f2p) =>
 (.ite (!(ieq y1.snd 0))
 (.ret ((Bx.mk true (TRr.mk (TRc.mk 0 (Sl.mk true 0 (fun _i2 => (0 : Int)))) (Bx.mk true (TSs.mk (Sl.mk true 0 (fun _i2 => (TSo.mk 0 0 0))) 0)) 0 false)), y1.snd))
 (.call con_fy (x.fst.Cap, (x.fst.Readers, x.snd.Slots)) fun (y2 : R_fy) =>
 (.ite (!(ieq y2.snd 0))
 (.ret ((Bx.mk true (TRr.mk (TRc.mk 0 (Sl.mk true 0 (fun _i3 => (0 : Int)))) (Bx.mk true (TSs.mk (Sl.mk true 0 (fun _i3 => (TSo.mk 0 0 0))) 0)) 0 false)), 3))
 (.ite (!(ieq ((x.snd.Heads.n : Nat) : Int) x.fst.Readers))
 (.ret ((Bx.mk true (TRr.mk (TRc.mk 0 (Sl.mk true 0 (fun _i3 => (0 : Int)))) (Bx.mk true (TSs.mk (Sl.mk true 0 (fun _i3 => (TSo.mk 0 0 0))) 0)) 0 false)), 3))
 (.ite (ile 4611686018427387904 x.snd.Tail)
 (.ret ((Bx.mk true (TRr.mk (TRc.mk 0 (Sl.mk true 0 (fun _i3 => (0 : Int)))) (Bx.mk true (TSs.mk (Sl.mk true 0 (fun _i3 => (TSo.mk 0 0 0))) 0)) 0 false)), 3))
 (.need (!y1.fst.nil) <|
 (.jump S_fd_7 D_fd_7 (X_fd_7.mk x.snd y2.fst y1.fst.x)))))))))
theorem sd_fd (x : X_fd) : (tt_fd x).Sides :=
  (TT.sC fun _ => (TT.sI TT.sR (TT.sC fun _ => (TT.sI TT.sR (TT.sI TT.sR (TT.sI TT.sR (TT.sN TT.sJ)))))))
noncomputable def D_fd : Dyn X_fd R_fd := .of tt_fd
noncomputable def con_fd : Con Tryz.prog :=
  mkCon 75 J_fd S_fd D_fd D_fd (fun _ _ h => h) 2 0 [.any, sh_TRs] (by kernel_rfl) (by kernel_rfl) (by kernel_rfl) (lbk mxk (lbc ok_fd_15 rfl (lbc ok_fd_14 rfl (lbc ok_fd_9 rfl (lbc ok_fd_7 rfl lbn)))) 4000 (fun x => by kernel_rfl) sd_fd) rfl rfl (fun _ => rfl) (by kernel_rfl) rfl (fun _ => rfl) (fun x y _ => by kernel_rfl)
abbrev X_f2d : Type := Int × TFa
abbrev R_f2d : Type := TFa
noncomputable def J_f2d : Job Tryz.prog :=
  job Tryz.prog Tryz.f112 56 [(9, 1), (34, 1), (54, 1)] [(1, [.close (.loc 16 0), .close (.loc 13 0)]), (2, [.close (.loc 16 0), .close (.loc 13 0)]), (3, [.close (.loc 28 0), .close (.loc 25 0), .close (.loc 16 0), .close (.loc 13 0)]), (4, [.close (.loc 28 0), .close (.loc 25 0), .close (.loc 16 0), .close (.loc 13 0)]), (5, [.close (.loc 28 0), .close (.loc 25 0), .close (.loc 16 0), .close (.loc 13 0)]), (6, [.close (.loc 28 0), .close (.loc 25 0), .close (.loc 16 0), .close (.loc 13 0)])] [] [.close (.loc 52 0), .close (.loc 28 0), .close (.loc 25 0), .close (.loc 16 0), .close (.loc 13 0)] [] [sh_TFa] [con_fd, con_f2w, con_f1l] R_f2d [] fun y => [V.tup (V.unit), e_TFa y]
noncomputable def S_f2d : LabS :=
  lab0 Tryz.f112 2 1 X_f2d (fun x => [(V.ptr (.par 0) []), (V.int .i64) x.1, e_TFa x.2]) fun l => (dI (at_ l 1), d_TFa (at_ l 2))
noncomputable def tt_f2d (x : X_f2d) : TT Tryz.prog R_f2d :=
 (.need (inb x.fst x.snd.rings.n) <|
 (.need (((Nat.beq x.snd.rings.n x.snd.rings.n) && true) && (!(x.snd.rings.get ((0 : Nat) + (Int.toNat x.fst))).nil)) <|
 (.call con_f2w (x.snd.rings.get ((0 : Nat) + (Int.toNat x.fst))).x fun (y1 : R_f2w) =>
 (.need ((true && true) && ((Nat.beq x.snd.rings.n x.snd.rings.n) && (Nat.blt ((0 : Nat) + (Int.toNat x.fst)) x.snd.rings.n))) <|
 (.side ((fun v : Nat → V => v = v) (fun i2 => (cond (Nat.beq i2 ((0 : Nat) + (Int.toNat x.fst))) (V.ptr (Id.loc 16 0) List.nil) (V.obox (x.snd.rings.get i2).nil (e_TRr (x.snd.rings.get i2).x))))) <|
 (.need ((true && true) && (Nat.beq x.snd.rings.n x.snd.rings.n)) <|
 (.ite (!(ieq y1.snd.fst 10))
 (.ret (TFa.mk x.snd.p x.snd.threads (Sl.mk x.snd.rings.nil x.snd.rings.n (fun i2 => (Bx.mk (cond (Nat.beq i2 ((0 : Nat) + (Int.toNat x.fst))) false (x.snd.rings.get i2).nil) (TRr.mk (TRc.mk (cond (Nat.beq i2 ((0 : Nat) + (Int.toNat x.fst))) y1.snd.snd.cursors.tail (x.snd.rings.get i2).x.cursors.tail) (Sl.mk (cond (Nat.beq i2 ((0 : Nat) + (Int.toNat x.fst))) y1.snd.snd.cursors.heads.nil (x.snd.rings.get i2).x.cursors.heads.nil) (cond (Nat.beq i2 ((0 : Nat) + (Int.toNat x.fst))) y1.snd.snd.cursors.heads.n (x.snd.rings.get i2).x.cursors.heads.n) (fun i3 => (cond (Nat.beq i2 ((0 : Nat) + (Int.toNat x.fst))) (y1.snd.snd.cursors.heads.get i3) ((x.snd.rings.get i2).x.cursors.heads.get i3))))) (Bx.mk (cond (Nat.beq i2 ((0 : Nat) + (Int.toNat x.fst))) y1.snd.snd.s.nil (x.snd.rings.get i2).x.s.nil) (TSs.mk (Sl.mk (cond (Nat.beq i2 ((0 : Nat) + (Int.toNat x.fst))) y1.snd.snd.s.x.l.nil (x.snd.rings.get i2).x.s.x.l.nil) (cond (Nat.beq i2 ((0 : Nat) + (Int.toNat x.fst))) y1.snd.snd.s.x.l.n (x.snd.rings.get i2).x.s.x.l.n) (fun i3 => (TSo.mk (cond (Nat.beq i2 ((0 : Nat) + (Int.toNat x.fst))) (y1.snd.snd.s.x.l.get i3).Stamp ((x.snd.rings.get i2).x.s.x.l.get i3).Stamp) (cond (Nat.beq i2 ((0 : Nat) + (Int.toNat x.fst))) (y1.snd.snd.s.x.l.get i3).Value ((x.snd.rings.get i2).x.s.x.l.get i3).Value) (cond (Nat.beq i2 ((0 : Nat) + (Int.toNat x.fst))) (y1.snd.snd.s.x.l.get i3).Left ((x.snd.rings.get i2).x.s.x.l.get i3).Left)))) (cond (Nat.beq i2 ((0 : Nat) + (Int.toNat x.fst))) y1.snd.snd.s.x.readers (x.snd.rings.get i2).x.s.x.readers))) (cond (Nat.beq i2 ((0 : Nat) + (Int.toNat x.fst))) y1.snd.snd.most (x.snd.rings.get i2).x.most) (cond (Nat.beq i2 ((0 : Nat) + (Int.toNat x.fst))) y1.snd.snd.closed (x.snd.rings.get i2).x.closed))))) x.snd.now x.snd.reads x.snd.ended))
 (.need (inb x.fst x.snd.rings.n) <|
 (.need (((Nat.beq x.snd.rings.n x.snd.rings.n) && true) && (!(cond (Nat.beq ((0 : Nat) + (Int.toNat x.fst)) ((0 : Nat) + (Int.toNat x.fst))) false (x.snd.rings.get ((0 : Nat) + (Int.toNat x.fst))).nil))) <|
 (.call con_f1l (TRr.mk (TRc.mk (cond (Nat.beq ((0 : Nat) + (Int.toNat x.fst)) ((0 : Nat) + (Int.toNat x.fst))) y1.snd.snd.cursors.tail (x.snd.rings.get ((0 : Nat) + (Int.toNat x.fst))).x.cursors.tail) (Sl.mk (cond (Nat.beq ((0 : Nat) + (Int.toNat x.fst)) ((0 : Nat) + (Int.toNat x.fst))) y1.snd.snd.cursors.heads.nil (x.snd.rings.get ((0 : Nat) + (Int.toNat x.fst))).x.cursors.heads.nil) (cond (Nat.beq ((0 : Nat) + (Int.toNat x.fst)) ((0 : Nat) + (Int.toNat x.fst))) y1.snd.snd.cursors.heads.n (x.snd.rings.get ((0 : Nat) + (Int.toNat x.fst))).x.cursors.heads.n) (fun i2 => (cond (Nat.beq ((0 : Nat) + (Int.toNat x.fst)) ((0 : Nat) + (Int.toNat x.fst))) (y1.snd.snd.cursors.heads.get i2) ((x.snd.rings.get ((0 : Nat) + (Int.toNat x.fst))).x.cursors.heads.get i2))))) (Bx.mk (cond (Nat.beq ((0 : Nat) + (Int.toNat x.fst)) ((0 : Nat) + (Int.toNat x.fst))) y1.snd.snd.s.nil (x.snd.rings.get ((0 : Nat) + (Int.toNat x.fst))).x.s.nil) (TSs.mk (Sl.mk (cond (Nat.beq ((0 : Nat) + (Int.toNat x.fst)) ((0 : Nat) + (Int.toNat x.fst))) y1.snd.snd.s.x.l.nil (x.snd.rings.get ((0 : Nat) + (Int.toNat x.fst))).x.s.x.l.nil) (cond (Nat.beq ((0 : Nat) + (Int.toNat x.fst)) ((0 : Nat) + (Int.toNat x.fst))) y1.snd.snd.s.x.l.n (x.snd.rings.get ((0 : Nat) + (Int.toNat x.fst))).x.s.x.l.n) (fun i2 => (TSo.mk (cond (Nat.beq ((0 : Nat) + (Int.toNat x.fst)) ((0 : Nat) + (Int.toNat x.fst))) (y1.snd.snd.s.x.l.get i2).Stamp ((x.snd.rings.get ((0 : Nat) + (Int.toNat x.fst))).x.s.x.l.get i2).Stamp) (cond (Nat.beq ((0 : Nat) + (Int.toNat x.fst)) ((0 : Nat) + (Int.toNat x.fst))) (y1.snd.snd.s.x.l.get i2).Value ((x.snd.rings.get ((0 : Nat) + (Int.toNat x.fst))).x.s.x.l.get i2).Value) (cond (Nat.beq ((0 : Nat) + (Int.toNat x.fst)) ((0 : Nat) + (Int.toNat x.fst))) (y1.snd.snd.s.x.l.get i2).Left ((x.snd.rings.get ((0 : Nat) + (Int.toNat x.fst))).x.s.x.l.get i2).Left)))) (cond (Nat.beq ((0 : Nat) + (Int.toNat x.fst)) ((0 : Nat) + (Int.toNat x.fst))) y1.snd.snd.s.x.readers (x.snd.rings.get ((0 : Nat) + (Int.toNat x.fst))).x.s.x.readers))) (cond (Nat.beq ((0 : Nat) + (Int.toNat x.fst)) ((0 : Nat) + (Int.toNat x.fst))) y1.snd.snd.most (x.snd.rings.get ((0 : Nat) + (Int.toNat x.fst))).x.most) (cond (Nat.beq ((0 : Nat) + (Int.toNat x.fst)) ((0 : Nat) + (Int.toNat x.fst))) y1.snd.snd.closed (x.snd.rings.get ((0 : Nat) + (Int.toNat x.fst))).x.closed)) fun (y2 : R_f1l) =>
 (.need ((true && true) && ((Nat.beq x.snd.rings.n x.snd.rings.n) && (Nat.blt ((0 : Nat) + (Int.toNat x.fst)) x.snd.rings.n))) <|
 (.side ((fun v : Nat → V => v = v) (fun i3 => (cond (Nat.beq i3 ((0 : Nat) + (Int.toNat x.fst))) (V.ptr (Id.loc 28 0) List.nil) (V.obox (cond (Nat.beq i3 ((0 : Nat) + (Int.toNat x.fst))) false (x.snd.rings.get i3).nil) (V.cons (V.cons (V.int IntKind.u64 (cond (Nat.beq i3 ((0 : Nat) + (Int.toNat x.fst))) y1.snd.snd.cursors.tail (x.snd.rings.get i3).x.cursors.tail)) (V.cons (V.osl 35 1 (cond (Nat.beq i3 ((0 : Nat) + (Int.toNat x.fst))) y1.snd.snd.cursors.heads.nil (x.snd.rings.get i3).x.cursors.heads.nil) (cond (Nat.beq i3 ((0 : Nat) + (Int.toNat x.fst))) y1.snd.snd.cursors.heads.n (x.snd.rings.get i3).x.cursors.heads.n) (fun i4 => (V.int IntKind.u64 (cond (Nat.beq i3 ((0 : Nat) + (Int.toNat x.fst))) (y1.snd.snd.cursors.heads.get i4) ((x.snd.rings.get i3).x.cursors.heads.get i4))))) V.unit)) (V.cons (V.obox (cond (Nat.beq i3 ((0 : Nat) + (Int.toNat x.fst))) y1.snd.snd.s.nil (x.snd.rings.get i3).x.s.nil) (V.cons (V.osl 150 3 (cond (Nat.beq i3 ((0 : Nat) + (Int.toNat x.fst))) y1.snd.snd.s.x.l.nil (x.snd.rings.get i3).x.s.x.l.nil) (cond (Nat.beq i3 ((0 : Nat) + (Int.toNat x.fst))) y1.snd.snd.s.x.l.n (x.snd.rings.get i3).x.s.x.l.n) (fun i4 => (V.cons (V.int IntKind.u64 (cond (Nat.beq i3 ((0 : Nat) + (Int.toNat x.fst))) (y1.snd.snd.s.x.l.get i4).Stamp ((x.snd.rings.get i3).x.s.x.l.get i4).Stamp)) (V.cons (V.int IntKind.u64 (cond (Nat.beq i3 ((0 : Nat) + (Int.toNat x.fst))) (y1.snd.snd.s.x.l.get i4).Value ((x.snd.rings.get i3).x.s.x.l.get i4).Value)) (V.cons (V.int IntKind.i64 (cond (Nat.beq i3 ((0 : Nat) + (Int.toNat x.fst))) (y1.snd.snd.s.x.l.get i4).Left ((x.snd.rings.get i3).x.s.x.l.get i4).Left)) V.unit))))) (V.cons (V.int IntKind.i64 (cond (Nat.beq i3 ((0 : Nat) + (Int.toNat x.fst))) y1.snd.snd.s.x.readers (x.snd.rings.get i3).x.s.x.readers)) V.unit))) (V.cons (V.int IntKind.u64 (cond (Nat.beq i3 ((0 : Nat) + (Int.toNat x.fst))) y1.snd.snd.most (x.snd.rings.get i3).x.most)) (V.cons (V.bool (cond (Nat.beq i3 ((0 : Nat) + (Int.toNat x.fst))) y1.snd.snd.closed (x.snd.rings.get i3).x.closed)) V.unit)))))))) <|
 (.need ((true && true) && (Nat.beq x.snd.rings.n x.snd.rings.n)) <|
 (.need (inb x.fst x.snd.p.Rings.n) <|
 (.call con_fd ((x.snd.p.Rings.get (Int.toNat x.fst)), (TRs.mk (IntKind.u64.wrap (y2.Tail + 1)) y2.Heads y2.Closed y2.Slots)) fun (y3 : R_fd) =>
 (.ite (ieq y3.snd 0)
 (.need (inb x.fst x.snd.rings.n) <|
 (.need ((Nat.beq x.snd.rings.n x.snd.rings.n) && true) <|
 (.need ((true && true) && (Nat.beq x.snd.rings.n x.snd.rings.n)) <|
 (.ret (TFa.mk x.snd.p x.snd.threads (Sl.mk x.snd.rings.nil x.snd.rings.n (fun i4 => (Bx.mk (cond (Nat.beq i4 ((0 : Nat) + (Int.toNat x.fst))) y3.fst.nil (cond (Nat.beq i4 ((0 : Nat) + (Int.toNat x.fst))) false (cond (Nat.beq i4 ((0 : Nat) + (Int.toNat x.fst))) false (x.snd.rings.get i4).nil))) (TRr.mk (TRc.mk (cond (Nat.beq i4 ((0 : Nat) + (Int.toNat x.fst))) y3.fst.x.cursors.tail (cond (Nat.beq i4 ((0 : Nat) + (Int.toNat x.fst))) (cond (Nat.beq ((0 : Nat) + (Int.toNat x.fst)) ((0 : Nat) + (Int.toNat x.fst))) y1.snd.snd.cursors.tail (x.snd.rings.get ((0 : Nat) + (Int.toNat x.fst))).x.cursors.tail) (cond (Nat.beq i4 ((0 : Nat) + (Int.toNat x.fst))) y1.snd.snd.cursors.tail (x.snd.rings.get i4).x.cursors.tail))) (Sl.mk (cond (Nat.beq i4 ((0 : Nat) + (Int.toNat x.fst))) y3.fst.x.cursors.heads.nil (cond (Nat.beq i4 ((0 : Nat) + (Int.toNat x.fst))) (cond (Nat.beq ((0 : Nat) + (Int.toNat x.fst)) ((0 : Nat) + (Int.toNat x.fst))) y1.snd.snd.cursors.heads.nil (x.snd.rings.get ((0 : Nat) + (Int.toNat x.fst))).x.cursors.heads.nil) (cond (Nat.beq i4 ((0 : Nat) + (Int.toNat x.fst))) y1.snd.snd.cursors.heads.nil (x.snd.rings.get i4).x.cursors.heads.nil))) (cond (Nat.beq i4 ((0 : Nat) + (Int.toNat x.fst))) y3.fst.x.cursors.heads.n (cond (Nat.beq i4 ((0 : Nat) + (Int.toNat x.fst))) (cond (Nat.beq ((0 : Nat) + (Int.toNat x.fst)) ((0 : Nat) + (Int.toNat x.fst))) y1.snd.snd.cursors.heads.n (x.snd.rings.get ((0 : Nat) + (Int.toNat x.fst))).x.cursors.heads.n) (cond (Nat.beq i4 ((0 : Nat) + (Int.toNat x.fst))) y1.snd.snd.cursors.heads.n (x.snd.rings.get i4).x.cursors.heads.n))) (fun i5 => (cond (Nat.beq i4 ((0 : Nat) + (Int.toNat x.fst))) (y3.fst.x.cursors.heads.get i5) (cond (Nat.beq i4 ((0 : Nat) + (Int.toNat x.fst))) (cond (Nat.beq ((0 : Nat) + (Int.toNat x.fst)) ((0 : Nat) + (Int.toNat x.fst))) (y1.snd.snd.cursors.heads.get i5) ((x.snd.rings.get ((0 : Nat) + (Int.toNat x.fst))).x.cursors.heads.get i5)) (cond (Nat.beq i4 ((0 : Nat) + (Int.toNat x.fst))) (y1.snd.snd.cursors.heads.get i5) ((x.snd.rings.get i4).x.cursors.heads.get i5))))))) (Bx.mk (cond (Nat.beq i4 ((0 : Nat) + (Int.toNat x.fst))) y3.fst.x.s.nil (cond (Nat.beq i4 ((0 : Nat) + (Int.toNat x.fst))) (cond (Nat.beq ((0 : Nat) + (Int.toNat x.fst)) ((0 : Nat) + (Int.toNat x.fst))) y1.snd.snd.s.nil (x.snd.rings.get ((0 : Nat) + (Int.toNat x.fst))).x.s.nil) (cond (Nat.beq i4 ((0 : Nat) + (Int.toNat x.fst))) y1.snd.snd.s.nil (x.snd.rings.get i4).x.s.nil))) (TSs.mk (Sl.mk (cond (Nat.beq i4 ((0 : Nat) + (Int.toNat x.fst))) y3.fst.x.s.x.l.nil (cond (Nat.beq i4 ((0 : Nat) + (Int.toNat x.fst))) (cond (Nat.beq ((0 : Nat) + (Int.toNat x.fst)) ((0 : Nat) + (Int.toNat x.fst))) y1.snd.snd.s.x.l.nil (x.snd.rings.get ((0 : Nat) + (Int.toNat x.fst))).x.s.x.l.nil) (cond (Nat.beq i4 ((0 : Nat) + (Int.toNat x.fst))) y1.snd.snd.s.x.l.nil (x.snd.rings.get i4).x.s.x.l.nil))) (cond (Nat.beq i4 ((0 : Nat) + (Int.toNat x.fst))) y3.fst.x.s.x.l.n (cond (Nat.beq i4 ((0 : Nat) + (Int.toNat x.fst))) (cond (Nat.beq ((0 : Nat) + (Int.toNat x.fst)) ((0 : Nat) + (Int.toNat x.fst))) y1.snd.snd.s.x.l.n (x.snd.rings.get ((0 : Nat) + (Int.toNat x.fst))).x.s.x.l.n) (cond (Nat.beq i4 ((0 : Nat) + (Int.toNat x.fst))) y1.snd.snd.s.x.l.n (x.snd.rings.get i4).x.s.x.l.n))) (fun i5 => (TSo.mk (cond (Nat.beq i4 ((0 : Nat) + (Int.toNat x.fst))) (y3.fst.x.s.x.l.get i5).Stamp (cond (Nat.beq i4 ((0 : Nat) + (Int.toNat x.fst))) (cond (Nat.beq ((0 : Nat) + (Int.toNat x.fst)) ((0 : Nat) + (Int.toNat x.fst))) (y1.snd.snd.s.x.l.get i5).Stamp ((x.snd.rings.get ((0 : Nat) + (Int.toNat x.fst))).x.s.x.l.get i5).Stamp) (cond (Nat.beq i4 ((0 : Nat) + (Int.toNat x.fst))) (y1.snd.snd.s.x.l.get i5).Stamp ((x.snd.rings.get i4).x.s.x.l.get i5).Stamp))) (cond (Nat.beq i4 ((0 : Nat) + (Int.toNat x.fst))) (y3.fst.x.s.x.l.get i5).Value (cond (Nat.beq i4 ((0 : Nat) + (Int.toNat x.fst))) (cond (Nat.beq ((0 : Nat) + (Int.toNat x.fst)) ((0 : Nat) + (Int.toNat x.fst))) (y1.snd.snd.s.x.l.get i5).Value ((x.snd.rings.get ((0 : Nat) + (Int.toNat x.fst))).x.s.x.l.get i5).Value) (cond (Nat.beq i4 ((0 : Nat) + (Int.toNat x.fst))) (y1.snd.snd.s.x.l.get i5).Value ((x.snd.rings.get i4).x.s.x.l.get i5).Value))) (cond (Nat.beq i4 ((0 : Nat) + (Int.toNat x.fst))) (y3.fst.x.s.x.l.get i5).Left (cond (Nat.beq i4 ((0 : Nat) + (Int.toNat x.fst))) (cond (Nat.beq ((0 : Nat) + (Int.toNat x.fst)) ((0 : Nat) + (Int.toNat x.fst))) (y1.snd.snd.s.x.l.get i5).Left ((x.snd.rings.get ((0 : Nat) + (Int.toNat x.fst))).x.s.x.l.get i5).Left) (cond (Nat.beq i4 ((0 : Nat) + (Int.toNat x.fst))) (y1.snd.snd.s.x.l.get i5).Left ((x.snd.rings.get i4).x.s.x.l.get i5).Left)))))) (cond (Nat.beq i4 ((0 : Nat) + (Int.toNat x.fst))) y3.fst.x.s.x.readers (cond (Nat.beq i4 ((0 : Nat) + (Int.toNat x.fst))) (cond (Nat.beq ((0 : Nat) + (Int.toNat x.fst)) ((0 : Nat) + (Int.toNat x.fst))) y1.snd.snd.s.x.readers (x.snd.rings.get ((0 : Nat) + (Int.toNat x.fst))).x.s.x.readers) (cond (Nat.beq i4 ((0 : Nat) + (Int.toNat x.fst))) y1.snd.snd.s.x.readers (x.snd.rings.get i4).x.s.x.readers))))) (cond (Nat.beq i4 ((0 : Nat) + (Int.toNat x.fst))) y3.fst.x.most (cond (Nat.beq i4 ((0 : Nat) + (Int.toNat x.fst))) (cond (Nat.beq ((0 : Nat) + (Int.toNat x.fst)) ((0 : Nat) + (Int.toNat x.fst))) y1.snd.snd.most (x.snd.rings.get ((0 : Nat) + (Int.toNat x.fst))).x.most) (cond (Nat.beq i4 ((0 : Nat) + (Int.toNat x.fst))) y1.snd.snd.most (x.snd.rings.get i4).x.most))) (cond (Nat.beq i4 ((0 : Nat) + (Int.toNat x.fst))) y3.fst.x.closed (cond (Nat.beq i4 ((0 : Nat) + (Int.toNat x.fst))) (cond (Nat.beq ((0 : Nat) + (Int.toNat x.fst)) ((0 : Nat) + (Int.toNat x.fst))) y1.snd.snd.closed (x.snd.rings.get ((0 : Nat) + (Int.toNat x.fst))).x.closed) (cond (Nat.beq i4 ((0 : Nat) + (Int.toNat x.fst))) y1.snd.snd.closed (x.snd.rings.get i4).x.closed))))))) x.snd.now x.snd.reads x.snd.ended)))))
 (.ret (TFa.mk x.snd.p x.snd.threads (Sl.mk x.snd.rings.nil x.snd.rings.n (fun i4 => (Bx.mk (cond (Nat.beq i4 ((0 : Nat) + (Int.toNat x.fst))) false (cond (Nat.beq i4 ((0 : Nat) + (Int.toNat x.fst))) false (x.snd.rings.get i4).nil)) (TRr.mk (TRc.mk (cond (Nat.beq i4 ((0 : Nat) + (Int.toNat x.fst))) (cond (Nat.beq ((0 : Nat) + (Int.toNat x.fst)) ((0 : Nat) + (Int.toNat x.fst))) y1.snd.snd.cursors.tail (x.snd.rings.get ((0 : Nat) + (Int.toNat x.fst))).x.cursors.tail) (cond (Nat.beq i4 ((0 : Nat) + (Int.toNat x.fst))) y1.snd.snd.cursors.tail (x.snd.rings.get i4).x.cursors.tail)) (Sl.mk (cond (Nat.beq i4 ((0 : Nat) + (Int.toNat x.fst))) (cond (Nat.beq ((0 : Nat) + (Int.toNat x.fst)) ((0 : Nat) + (Int.toNat x.fst))) y1.snd.snd.cursors.heads.nil (x.snd.rings.get ((0 : Nat) + (Int.toNat x.fst))).x.cursors.heads.nil) (cond (Nat.beq i4 ((0 : Nat) + (Int.toNat x.fst))) y1.snd.snd.cursors.heads.nil (x.snd.rings.get i4).x.cursors.heads.nil)) (cond (Nat.beq i4 ((0 : Nat) + (Int.toNat x.fst))) (cond (Nat.beq ((0 : Nat) + (Int.toNat x.fst)) ((0 : Nat) + (Int.toNat x.fst))) y1.snd.snd.cursors.heads.n (x.snd.rings.get ((0 : Nat) + (Int.toNat x.fst))).x.cursors.heads.n) (cond (Nat.beq i4 ((0 : Nat) + (Int.toNat x.fst))) y1.snd.snd.cursors.heads.n (x.snd.rings.get i4).x.cursors.heads.n)) (fun i5 => (cond (Nat.beq i4 ((0 : Nat) + (Int.toNat x.fst))) (cond (Nat.beq ((0 : Nat) + (Int.toNat x.fst)) ((0 : Nat) + (Int.toNat x.fst))) (y1.snd.snd.cursors.heads.get i5) ((x.snd.rings.get ((0 : Nat) + (Int.toNat x.fst))).x.cursors.heads.get i5)) (cond (Nat.beq i4 ((0 : Nat) + (Int.toNat x.fst))) (y1.snd.snd.cursors.heads.get i5) ((x.snd.rings.get i4).x.cursors.heads.get i5)))))) (Bx.mk (cond (Nat.beq i4 ((0 : Nat) + (Int.toNat x.fst))) (cond (Nat.beq ((0 : Nat) + (Int.toNat x.fst)) ((0 : Nat) + (Int.toNat x.fst))) y1.snd.snd.s.nil (x.snd.rings.get ((0 : Nat) + (Int.toNat x.fst))).x.s.nil) (cond (Nat.beq i4 ((0 : Nat) + (Int.toNat x.fst))) y1.snd.snd.s.nil (x.snd.rings.get i4).x.s.nil)) (TSs.mk (Sl.mk (cond (Nat.beq i4 ((0 : Nat) + (Int.toNat x.fst))) (cond (Nat.beq ((0 : Nat) + (Int.toNat x.fst)) ((0 : Nat) + (Int.toNat x.fst))) y1.snd.snd.s.x.l.nil (x.snd.rings.get ((0 : Nat) + (Int.toNat x.fst))).x.s.x.l.nil) (cond (Nat.beq i4 ((0 : Nat) + (Int.toNat x.fst))) y1.snd.snd.s.x.l.nil (x.snd.rings.get i4).x.s.x.l.nil)) (cond (Nat.beq i4 ((0 : Nat) + (Int.toNat x.fst))) (cond (Nat.beq ((0 : Nat) + (Int.toNat x.fst)) ((0 : Nat) + (Int.toNat x.fst))) y1.snd.snd.s.x.l.n (x.snd.rings.get ((0 : Nat) + (Int.toNat x.fst))).x.s.x.l.n) (cond (Nat.beq i4 ((0 : Nat) + (Int.toNat x.fst))) y1.snd.snd.s.x.l.n (x.snd.rings.get i4).x.s.x.l.n)) (fun i5 => (TSo.mk (cond (Nat.beq i4 ((0 : Nat) + (Int.toNat x.fst))) (cond (Nat.beq ((0 : Nat) + (Int.toNat x.fst)) ((0 : Nat) + (Int.toNat x.fst))) (y1.snd.snd.s.x.l.get i5).Stamp ((x.snd.rings.get ((0 : Nat) + (Int.toNat x.fst))).x.s.x.l.get i5).Stamp) (cond (Nat.beq i4 ((0 : Nat) + (Int.toNat x.fst))) (y1.snd.snd.s.x.l.get i5).Stamp ((x.snd.rings.get i4).x.s.x.l.get i5).Stamp)) (cond (Nat.beq i4 ((0 : Nat) + (Int.toNat x.fst))) (cond (Nat.beq ((0 : Nat) + (Int.toNat x.fst)) ((0 : Nat) + (Int.toNat x.fst))) (y1.snd.snd.s.x.l.get i5).Value ((x.snd.rings.get ((0 : Nat) + (Int.toNat x.fst))).x.s.x.l.get i5).Value) (cond (Nat.beq i4 ((0 : Nat) + (Int.toNat x.fst))) (y1.snd.snd.s.x.l.get i5).Value ((x.snd.rings.get i4).x.s.x.l.get i5).Value)) (cond (Nat.beq i4 ((0 : Nat) + (Int.toNat x.fst))) (cond (Nat.beq ((0 : Nat) + (Int.toNat x.fst)) ((0 : Nat) + (Int.toNat x.fst))) (y1.snd.snd.s.x.l.get i5).Left ((x.snd.rings.get ((0 : Nat) + (Int.toNat x.fst))).x.s.x.l.get i5).Left) (cond (Nat.beq i4 ((0 : Nat) + (Int.toNat x.fst))) (y1.snd.snd.s.x.l.get i5).Left ((x.snd.rings.get i4).x.s.x.l.get i5).Left))))) (cond (Nat.beq i4 ((0 : Nat) + (Int.toNat x.fst))) (cond (Nat.beq ((0 : Nat) + (Int.toNat x.fst)) ((0 : Nat) + (Int.toNat x.fst))) y1.snd.snd.s.x.readers (x.snd.rings.get ((0 : Nat) + (Int.toNat x.fst))).x.s.x.readers) (cond (Nat.beq i4 ((0 : Nat) + (Int.toNat x.fst))) y1.snd.snd.s.x.readers (x.snd.rings.get i4).x.s.x.readers)))) (cond (Nat.beq i4 ((0 : Nat) + (Int.toNat x.fst))) (cond (Nat.beq ((0 : Nat) + (Int.toNat x.fst)) ((0 : Nat) + (Int.toNat x.fst))) y1.snd.snd.most (x.snd.rings.get ((0 : Nat) + (Int.toNat x.fst))).x.most) (cond (Nat.beq i4 ((0 : Nat) + (Int.toNat x.fst))) y1.snd.snd.most (x.snd.rings.get i4).x.most)) (cond (Nat.beq i4 ((0 : Nat) + (Int.toNat x.fst))) (cond (Nat.beq ((0 : Nat) + (Int.toNat x.fst)) ((0 : Nat) + (Int.toNat x.fst))) y1.snd.snd.closed (x.snd.rings.get ((0 : Nat) + (Int.toNat x.fst))).x.closed) (cond (Nat.beq i4 ((0 : Nat) + (Int.toNat x.fst))) y1.snd.snd.closed (x.snd.rings.get i4).x.closed)))))) x.snd.now x.snd.reads x.snd.ended))))))))))))))))))
theorem sd_f2d (x : X_f2d) : (tt_f2d x).Sides :=
  (TT.sN (TT.sN (TT.sC fun _ => (TT.sN (TT.sS rfl (TT.sN (TT.sI TT.sR (TT.sN (TT.sN (TT.sC fun _ => (TT.sN (TT.sS rfl (TT.sN (TT.sN (TT.sC fun _ => (TT.sI (TT.sN (TT.sN (TT.sN TT.sR))) TT.sR))))))))))))))))
noncomputable def D_f2d : Dyn X_f2d R_f2d := .of tt_f2d
noncomputable def con_f2d : Con Tryz.prog :=
  mkCon 112 J_f2d S_f2d D_f2d D_f2d (fun _ _ h => h) 2 1 [.any, .any] (by kernel_rfl) (by kernel_rfl) (by kernel_rfl) (lbk mxk lbn 4000 (fun x => by kernel_rfl) sd_f2d) rfl rfl (fun _ => rfl) (by kernel_rfl) rfl (fun _ => rfl) (fun x y _ => by kernel_rfl)
abbrev X_f2x : Type := Int × Int × TSs
abbrev R_f2x : Type := Int × TSs
noncomputable def J_f2x : Job Tryz.prog :=
  job Tryz.prog Tryz.f159 43 [] [(8, [.close (.loc 14 0)]), (10, [.close (.loc 14 0)]), (11, [.close (.loc 14 0)])] [(5, [.opn (.par 0) [.fld 0 0] 14])] [.close (.loc 14 0)] [.any] [sh_TSs] [con_fv, con_f2r, con_f36] R_f2x [(0, [⟨.loc 14 0, .par 0, [.fld 0 0], none, none⟩])] fun y => [(V.int .i64) y.1, e_TSs y.2]
noncomputable def S_f2x : LabS :=
  lab0 Tryz.f159 3 1 X_f2x (fun x => [(V.ptr (.par 0) []), (V.int .u64) x.1, (V.int .u64) x.2.1, e_TSs x.2.2]) fun l => (dI (at_ l 1), dI (at_ l 2), d_TSs (at_ l 3))
noncomputable def tt_f2x (x : X_f2x) : TT Tryz.prog R_f2x :=
 (.ite (ile 4611686018427387904 x.fst)
 (.ret (1, x.snd.snd))
 (.call con_fv (x.fst, ((TSs_L0.mk (Ln.mk x.snd.snd.l.nil x.snd.snd.l.n) x.snd.snd.readers), (Ar.mk x.snd.snd.l.n x.snd.snd.l.get))) fun (y1 : R_fv) =>
 (.need ((Nat.beq x.snd.snd.l.n y1.snd) && true) <|
 (.call con_f2r x.fst fun (y2 : R_f2r) =>
 (.ite (ilt (x.snd.snd.l.get y1.fst).Stamp y2)
 (.need ((true && true) && (Nat.beq x.snd.snd.l.n x.snd.snd.l.n)) <|
 (.ret (8, x.snd.snd)))
 (.need ((Nat.beq x.snd.snd.l.n y1.snd) && true) <|
 (.call con_f2r x.fst fun (y3 : R_f2r) =>
 (.ite (ilt y3 (x.snd.snd.l.get y1.fst).Stamp)
 (.need ((true && true) && (Nat.beq x.snd.snd.l.n x.snd.snd.l.n)) <|
 (.ret (11, x.snd.snd)))
 (.call con_f36 x.fst fun (y4 : R_f36) =>
 (.need (ile 0 x.snd.snd.readers) <|
 (.need ((Nat.beq x.snd.snd.l.n y1.snd) && true) <|
 (.need ((true && true) && (Nat.beq x.snd.snd.l.n x.snd.snd.l.n)) <|
 (.ret (0, (TSs.mk (Sl.mk x.snd.snd.l.nil x.snd.snd.l.n (fun i5 => (TSo.mk (cond (Nat.beq i5 y1.fst) y4 (x.snd.snd.l.get i5).Stamp) (cond (Nat.beq i5 y1.fst) x.snd.fst (x.snd.snd.l.get i5).Value) (cond (Nat.beq i5 y1.fst) (IntKind.i64.wrap ((shl IntKind.i64 1 x.snd.snd.readers) - 1)) (x.snd.snd.l.get i5).Left)))) x.snd.snd.readers)))))))))))))))
theorem sd_f2x (x : X_f2x) : (tt_f2x x).Sides :=
  (TT.sI TT.sR (TT.sC fun _ => (TT.sN (TT.sC fun _ => (TT.sI (TT.sN TT.sR) (TT.sN (TT.sC fun _ => (TT.sI (TT.sN TT.sR) (TT.sC fun _ => (TT.sN (TT.sN (TT.sN TT.sR))))))))))))
noncomputable def D_f2x : Dyn X_f2x R_f2x := .of tt_f2x
noncomputable def con_f2x : Con Tryz.prog :=
  mkCon 159 J_f2x S_f2x D_f2x D_f2x (fun _ _ h => h) 3 1 [.any, .any, .any] (by kernel_rfl) (by kernel_rfl) (by kernel_rfl) (lbk mxk lbn 4000 (fun x => by kernel_rfl) sd_f2x) rfl rfl (fun _ => rfl) (by kernel_rfl) rfl (fun _ => rfl) (fun x y _ => by kernel_rfl)
abbrev X_f2m : Type := Int × Int × TRr
abbrev R_f2m : Type := Int × TRr
noncomputable def J_f2m : Job Tryz.prog :=
  job Tryz.prog Tryz.f113 25 [] [] [] [.close (.loc 21 0)] [.any] [sh_TRr] [con_f2x] R_f2m [] fun y => [(V.int .i64) y.1, e_TRr y.2]
noncomputable def S_f2m : LabS :=
  lab0 Tryz.f113 3 1 X_f2m (fun x => [(V.ptr (.par 0) []), (V.int .u64) x.1, (V.int .u64) x.2.1, e_TRr x.2.2]) fun l => (dI (at_ l 1), dI (at_ l 2), d_TRr (at_ l 3))
noncomputable def tt_f2m (x : X_f2m) : TT Tryz.prog R_f2m :=
 (.ite (ile x.snd.snd.cursors.tail x.fst)
 (.ret (11, x.snd.snd))
 (.need (true && (!x.snd.snd.s.nil)) <|
 (.call con_f2x (x.fst, (x.snd.fst, x.snd.snd.s.x)) fun (y1 : R_f2x) =>
 (.ret (y1.fst, (TRr.mk x.snd.snd.cursors (Bx.mk false y1.snd) x.snd.snd.most x.snd.snd.closed))))))
theorem sd_f2m (x : X_f2m) : (tt_f2m x).Sides :=
  (TT.sI TT.sR (TT.sN (TT.sC fun _ => TT.sR)))
noncomputable def D_f2m : Dyn X_f2m R_f2m := .of tt_f2m
noncomputable def con_f2m : Con Tryz.prog :=
  mkCon 113 J_f2m S_f2m D_f2m D_f2m (fun _ _ h => h) 3 1 [.any, .any, .any] (by kernel_rfl) (by kernel_rfl) (by kernel_rfl) (lbk mxk lbn 4000 (fun x => by kernel_rfl) sd_f2m) rfl rfl (fun _ => rfl) (by kernel_rfl) rfl (fun _ => rfl) (fun x y _ => by kernel_rfl)
abbrev X_f1a : Type := Int × TRr
abbrev R_f1a : Type := Int × Int × TRr
noncomputable def J_f1a : Job Tryz.prog :=
  job Tryz.prog Tryz.f114 49 [] [(10, [.close (.loc 34 0)])] [] [.close (.loc 44 0), .close (.loc 34 0)] [.any, .any] [sh_TRr] [con_f1h, con_fz] R_f1a [] fun y => [V.tup (V.cons ((V.int .u64) y.1) (V.cons ((V.int .i64) y.2.1) (V.unit))), e_TRr y.2.2]
noncomputable def S_f1a : LabS :=
  lab0 Tryz.f114 2 1 X_f1a (fun x => [(V.ptr (.par 0) []), (V.int .i64) x.1, e_TRr x.2]) fun l => (dI (at_ l 1), d_TRr (at_ l 2))
structure X_f1a_9 where
  j_1 : Int
  o_0 : TRr
noncomputable def S_f1a_9 : LabS :=
  labAt Tryz.f114 9 [(0, .any), (1, .any)] [sh_TRr] [] X_f1a_9 (fun x => [(V.ptr (.par 0) []), (V.int .i64) x.j_1, e_TRr x.o_0]) fun l => ⟨dI (at_ l 1), d_TRr (at_ l 2)⟩
noncomputable def tt_f1a_9 (x : X_f1a_9) : TT Tryz.prog R_f1a :=
 (.need (inb x.j_1 x.o_0.cursors.heads.n) <|
 (.need ((Nat.beq x.o_0.cursors.heads.n x.o_0.cursors.heads.n) && true) <|
 (.need (inb x.j_1 x.o_0.cursors.heads.n) <|
 (.need ((Nat.beq x.o_0.cursors.heads.n x.o_0.cursors.heads.n) && true) <|
 (.need ((true && true) && (Nat.beq x.o_0.cursors.heads.n x.o_0.cursors.heads.n)) <|
 (.need (inb x.j_1 x.o_0.cursors.heads.n) <|
 (.need ((Nat.beq x.o_0.cursors.heads.n x.o_0.cursors.heads.n) && true) <|
 (.need ((true && true) && (Nat.beq x.o_0.cursors.heads.n x.o_0.cursors.heads.n)) <|
 (.ret ((IntKind.u64.wrap ((cond (Nat.beq ((0 : Nat) + (Int.toNat x.j_1)) ((0 : Nat) + (Int.toNat x.j_1))) (IntKind.u64.wrap ((x.o_0.cursors.heads.get ((0 : Nat) + (Int.toNat x.j_1))) + 1)) (x.o_0.cursors.heads.get ((0 : Nat) + (Int.toNat x.j_1)))) - 1)), (0, (TRr.mk (TRc.mk x.o_0.cursors.tail (Sl.mk x.o_0.cursors.heads.nil x.o_0.cursors.heads.n (fun i1 => (cond (Nat.beq i1 ((0 : Nat) + (Int.toNat x.j_1))) (IntKind.u64.wrap ((x.o_0.cursors.heads.get ((0 : Nat) + (Int.toNat x.j_1))) + 1)) (x.o_0.cursors.heads.get i1))))) x.o_0.s x.o_0.most x.o_0.closed))))))))))))
theorem sd_f1a_9 (x : X_f1a_9) : (tt_f1a_9 x).Sides :=
  (TT.sN (TT.sN (TT.sN (TT.sN (TT.sN (TT.sN (TT.sN (TT.sN TT.sR))))))))
noncomputable def D_f1a_9 : Dyn X_f1a_9 R_f1a := .of tt_f1a_9
theorem ok_f1a_9 : LabOK J_f1a S_f1a_9 D_f1a_9 :=
  lbk mxk lbn 4000 (fun x => by kernel_rfl) sd_f1a_9
noncomputable def tt_f1a (x : X_f1a) : TT Tryz.prog R_f1a :=
 (.call con_fz (x.fst, x.snd.cursors) fun (y1 : R_fz) =>
 (.ite (!y1)
 (.ret (0, (1, x.snd)))
 (.call con_f1h x fun (y2 : R_f1h) =>
 (.ite y2
 (.ite x.snd.closed
 (.ret (0, (10, x.snd)))
 (.call con_f1h x fun (y3 : R_f1h) =>
 (.ite y3
 (.ret (0, (9, x.snd)))
 (.jump S_f1a_9 D_f1a_9 (X_f1a_9.mk x.fst x.snd)))))
 (.call con_f1h x fun (y3 : R_f1h) =>
 (.ite y3
 (.ret (0, (9, x.snd)))
 (.jump S_f1a_9 D_f1a_9 (X_f1a_9.mk x.fst x.snd))))))))
theorem sd_f1a (x : X_f1a) : (tt_f1a x).Sides :=
  (TT.sC fun _ => (TT.sI TT.sR (TT.sC fun _ => (TT.sI (TT.sI TT.sR (TT.sC fun _ => (TT.sI TT.sR TT.sJ))) (TT.sC fun _ => (TT.sI TT.sR TT.sJ))))))
noncomputable def D_f1a : Dyn X_f1a R_f1a := .of tt_f1a
noncomputable def con_f1a : Con Tryz.prog :=
  mkCon 114 J_f1a S_f1a D_f1a D_f1a (fun _ _ h => h) 2 1 [.any, .any] (by kernel_rfl) (by kernel_rfl) (by kernel_rfl) (lbk mxk (lbc ok_f1a_9 rfl lbn) 4000 (fun x => by kernel_rfl) sd_f1a) rfl rfl (fun _ => rfl) (by kernel_rfl) rfl (fun _ => rfl) (fun x y _ => by kernel_rfl)
abbrev X_f2y : Type := Int × Int × TSs
abbrev R_f2y : Type := Int × Int × TSs
noncomputable def J_f2y : Job Tryz.prog :=
  job Tryz.prog Tryz.f160 52 [] [(9, [.close (.loc 44 0), .close (.loc 20 0)])] [(4, [.opn (.par 0) [.fld 0 0] 20])] [.close (.loc 44 0), .close (.loc 20 0)] [.any, .any] [sh_TSs] [con_fo, con_fv, con_f2r] R_f2y [(0, [⟨.loc 20 0, .par 0, [.fld 0 0], none, none⟩])] fun y => [V.tup (V.cons ((V.int .u64) y.1) (V.cons ((V.int .i64) y.2.1) (V.unit))), e_TSs y.2.2]
noncomputable def S_f2y : LabS :=
  lab0 Tryz.f160 3 1 X_f2y (fun x => [(V.ptr (.par 0) []), (V.int .i64) x.1, (V.int .u64) x.2.1, e_TSs x.2.2]) fun l => (dI (at_ l 1), dI (at_ l 2), d_TSs (at_ l 3))
noncomputable def tt_f2y (x : X_f2y) : TT Tryz.prog R_f2y :=
 (.call con_fo x fun (y1 : R_fo) =>
 (.ite (!(ieq y1 0))
 (.ret (0, (y1, x.snd.snd)))
 (.call con_fv (x.snd.fst, ((TSs_L0.mk (Ln.mk x.snd.snd.l.nil x.snd.snd.l.n) x.snd.snd.readers), (Ar.mk x.snd.snd.l.n x.snd.snd.l.get))) fun (y2 : R_fv) =>
 (.need ((Nat.beq x.snd.snd.l.n y2.snd) && true) <|
 (.need ((Nat.beq x.snd.snd.l.n y2.snd) && true) <|
 (.need (ile 0 x.fst) <|
 (.need ((Nat.beq x.snd.snd.l.n y2.snd) && true) <|
 (.need ((Nat.beq x.snd.snd.l.n y2.snd) && true) <|
 (.ite (ieq (cond (Nat.beq y2.fst y2.fst) (Vm.bits .andNot IntKind.i64 (x.snd.snd.l.get y2.fst).Left (shl IntKind.i64 1 x.fst)) (x.snd.snd.l.get y2.fst).Left) 0)
 (.call con_f2r (IntKind.u64.wrap (x.snd.fst + (IntKind.u64.wrap ((x.snd.snd.l.n : Nat) : Int)))) fun (y3 : R_f2r) =>
 (.need ((Nat.beq x.snd.snd.l.n y2.snd) && true) <|
 (.need ((true && true) && (Nat.beq x.snd.snd.l.n x.snd.snd.l.n)) <|
 (.ret ((x.snd.snd.l.get y2.fst).Value, (0, (TSs.mk (Sl.mk x.snd.snd.l.nil x.snd.snd.l.n (fun i4 => (TSo.mk (cond (Nat.beq i4 y2.fst) y3 (cond (Nat.beq i4 y2.fst) (x.snd.snd.l.get y2.fst).Stamp (x.snd.snd.l.get i4).Stamp)) (cond (Nat.beq i4 y2.fst) (0 : Int) (cond (Nat.beq i4 y2.fst) (x.snd.snd.l.get y2.fst).Value (x.snd.snd.l.get i4).Value)) (cond (Nat.beq i4 y2.fst) (0 : Int) (cond (Nat.beq i4 y2.fst) (Vm.bits .andNot IntKind.i64 (x.snd.snd.l.get y2.fst).Left (shl IntKind.i64 1 x.fst)) (x.snd.snd.l.get i4).Left))))) x.snd.snd.readers)))))))
 (.need ((true && true) && (Nat.beq x.snd.snd.l.n x.snd.snd.l.n)) <|
 (.ret ((x.snd.snd.l.get y2.fst).Value, (0, (TSs.mk (Sl.mk x.snd.snd.l.nil x.snd.snd.l.n (fun i3 => (TSo.mk (cond (Nat.beq i3 y2.fst) (x.snd.snd.l.get y2.fst).Stamp (x.snd.snd.l.get i3).Stamp) (cond (Nat.beq i3 y2.fst) (x.snd.snd.l.get y2.fst).Value (x.snd.snd.l.get i3).Value) (cond (Nat.beq i3 y2.fst) (Vm.bits .andNot IntKind.i64 (x.snd.snd.l.get y2.fst).Left (shl IntKind.i64 1 x.fst)) (x.snd.snd.l.get i3).Left)))) x.snd.snd.readers))))))))))))))
theorem sd_f2y (x : X_f2y) : (tt_f2y x).Sides :=
  (TT.sC fun _ => (TT.sI TT.sR (TT.sC fun _ => (TT.sN (TT.sN (TT.sN (TT.sN (TT.sN (TT.sI (TT.sC fun _ => (TT.sN (TT.sN TT.sR))) (TT.sN TT.sR))))))))))
noncomputable def D_f2y : Dyn X_f2y R_f2y := .of tt_f2y
noncomputable def con_f2y : Con Tryz.prog :=
  mkCon 160 J_f2y S_f2y D_f2y D_f2y (fun _ _ h => h) 3 1 [.any, .any, .any] (by kernel_rfl) (by kernel_rfl) (by kernel_rfl) (lbk mxk lbn 4000 (fun x => by kernel_rfl) sd_f2y) rfl rfl (fun _ => rfl) (by kernel_rfl) rfl (fun _ => rfl) (fun x y _ => by kernel_rfl)
abbrev X_f2n : Type := Int × Int × TRr
abbrev R_f2n : Type := Int × Int × TRr
noncomputable def J_f2n : Job Tryz.prog :=
  job Tryz.prog Tryz.f115 38 [] [(6, [.close (.loc 24 0)]), (7, [.close (.loc 24 0)])] [] [.close (.loc 32 0), .close (.loc 24 0)] [.any, .any] [sh_TRr] [con_fz, con_f2y] R_f2n [] fun y => [V.tup (V.cons ((V.int .u64) y.1) (V.cons ((V.int .i64) y.2.1) (V.unit))), e_TRr y.2.2]
noncomputable def S_f2n : LabS :=
  lab0 Tryz.f115 3 1 X_f2n (fun x => [(V.ptr (.par 0) []), (V.int .i64) x.1, (V.int .u64) x.2.1, e_TRr x.2.2]) fun l => (dI (at_ l 1), dI (at_ l 2), d_TRr (at_ l 3))
noncomputable def tt_f2n (x : X_f2n) : TT Tryz.prog R_f2n :=
 (.call con_fz (x.fst, x.snd.snd.cursors) fun (y1 : R_fz) =>
 (.ite (!y1)
 (.ret (0, (1, x.snd.snd)))
 (.need (inb x.fst x.snd.snd.cursors.heads.n) <|
 (.need ((Nat.beq x.snd.snd.cursors.heads.n x.snd.snd.cursors.heads.n) && true) <|
 (.ite (ile (x.snd.snd.cursors.heads.get ((0 : Nat) + (Int.toNat x.fst))) x.snd.fst)
 (.need ((true && true) && (Nat.beq x.snd.snd.cursors.heads.n x.snd.snd.cursors.heads.n)) <|
 (.ret (0, (11, x.snd.snd))))
 (.need ((true && true) && (Nat.beq x.snd.snd.cursors.heads.n x.snd.snd.cursors.heads.n)) <|
 (.need (true && (!x.snd.snd.s.nil)) <|
 (.call con_f2y (x.fst, (x.snd.fst, x.snd.snd.s.x)) fun (y2 : R_f2y) =>
 (.ret (y2.fst, (y2.snd.fst, (TRr.mk x.snd.snd.cursors (Bx.mk false y2.snd.snd) x.snd.snd.most x.snd.snd.closed))))))))))))
theorem sd_f2n (x : X_f2n) : (tt_f2n x).Sides :=
  (TT.sC fun _ => (TT.sI TT.sR (TT.sN (TT.sN (TT.sI (TT.sN TT.sR) (TT.sN (TT.sN (TT.sC fun _ => TT.sR))))))))
noncomputable def D_f2n : Dyn X_f2n R_f2n := .of tt_f2n
noncomputable def con_f2n : Con Tryz.prog :=
  mkCon 115 J_f2n S_f2n D_f2n D_f2n (fun _ _ h => h) 3 1 [.any, .any, .any] (by kernel_rfl) (by kernel_rfl) (by kernel_rfl) (lbk mxk lbn 4000 (fun x => by kernel_rfl) sd_f2n) rfl rfl (fun _ => rfl) (by kernel_rfl) rfl (fun _ => rfl) (fun x y _ => by kernel_rfl)
abbrev X_f2z : Type := TRr
abbrev R_f2z : Type := Int × TRr
noncomputable def J_f2z : Job Tryz.prog :=
  job Tryz.prog Tryz.f35 8 [] [] [] [] [.any] [sh_TRr] [] R_f2z [] fun y => [(V.int .i64) y.1, e_TRr y.2]
noncomputable def S_f2z : LabS :=
  lab0 Tryz.f35 1 1 X_f2z (fun x => [(V.ptr (.par 0) []), e_TRr x]) fun l => (d_TRr (at_ l 1))
noncomputable def tt_f2z (x : X_f2z) : TT Tryz.prog R_f2z :=
 (.ret (0, (TRr.mk x.cursors x.s x.most true)))
theorem sd_f2z (x : X_f2z) : (tt_f2z x).Sides :=
  TT.sR
noncomputable def D_f2z : Dyn X_f2z R_f2z := .of tt_f2z
noncomputable def con_f2z : Con Tryz.prog :=
  mkCon 35 J_f2z S_f2z D_f2z D_f2z (fun _ _ h => h) 1 1 [.any] (by kernel_rfl) (by kernel_rfl) (by kernel_rfl) (lbk mxk lbn 4000 (fun x => by kernel_rfl) sd_f2z) rfl rfl (fun _ => rfl) (by kernel_rfl) rfl (fun _ => rfl) (fun x y _ => by kernel_rfl)
abbrev X_fg : Type := TEv × TFa
abbrev R_fg : Type := TFa
noncomputable def J_fg : Job Tryz.prog :=
  job Tryz.prog Tryz.f66 131 [(3, 3), (48, 1), (101, 1)] [(8, [.close (.loc 27 0), .close (.loc 23 0)]), (9, [.close (.loc 27 0), .close (.loc 23 0)]), (10, [.close (.loc 42 0), .close (.loc 38 0), .close (.loc 27 0), .close (.loc 23 0)]), (11, [.close (.loc 42 0), .close (.loc 38 0), .close (.loc 27 0), .close (.loc 23 0)]), (12, [.close (.loc 56 0), .close (.loc 52 0), .close (.loc 42 0), .close (.loc 38 0), .close (.loc 27 0), .close (.loc 23 0)]), (13, [.close (.loc 56 0), .close (.loc 52 0), .close (.loc 42 0), .close (.loc 38 0), .close (.loc 27 0), .close (.loc 23 0)]), (14, [.close (.loc 73 0), .close (.loc 69 0), .close (.loc 56 0), .close (.loc 52 0), .close (.loc 42 0), .close (.loc 38 0), .close (.loc 27 0), .close (.loc 23 0)]), (15, [.close (.loc 73 0), .close (.loc 69 0), .close (.loc 56 0), .close (.loc 52 0), .close (.loc 42 0), .close (.loc 38 0), .close (.loc 27 0), .close (.loc 23 0)]), (16, [.close (.loc 73 0), .close (.loc 69 0), .close (.loc 56 0), .close (.loc 52 0), .close (.loc 42 0), .close (.loc 38 0), .close (.loc 27 0), .close (.loc 23 0)]), (17, [.close (.loc 73 0), .close (.loc 69 0), .close (.loc 56 0), .close (.loc 52 0), .close (.loc 42 0), .close (.loc 38 0), .close (.loc 27 0), .close (.loc 23 0)]), (18, [.close (.loc 73 0), .close (.loc 69 0), .close (.loc 56 0), .close (.loc 52 0), .close (.loc 42 0), .close (.loc 38 0), .close (.loc 27 0), .close (.loc 23 0)]), (19, [.close (.loc 73 0), .close (.loc 69 0), .close (.loc 56 0), .close (.loc 52 0), .close (.loc 42 0), .close (.loc 38 0), .close (.loc 27 0), .close (.loc 23 0)]), (20, [.close (.loc 73 0), .close (.loc 69 0), .close (.loc 56 0), .close (.loc 52 0), .close (.loc 42 0), .close (.loc 38 0), .close (.loc 27 0), .close (.loc 23 0)])] [(7, [.opn (.par 0) [.fld 2 3] 23]), (9, [.opn (.par 0) [.fld 2 3] 38]), (11, [.opn (.par 0) [.fld 2 3] 52]), (13, [.opn (.par 0) [.fld 2 3] 69]), (20, [.opn (.par 0) [.fld 1 2] 105, .opn (.par 0) [.fld 1 2] 120])] [.close (.loc 120 0), .close (.loc 105 0), .close (.loc 73 0), .close (.loc 69 0), .close (.loc 56 0), .close (.loc 52 0), .close (.loc 42 0), .close (.loc 38 0), .close (.loc 27 0), .close (.loc 23 0)] [] [sh_TFa] [con_f15, con_f2d, con_f2z, con_f2m, con_f2n, con_f1a, con_f2a] R_fg [(0, [⟨.loc 23 0, .par 0, [.fld 2 3], none, none⟩, ⟨.loc 38 0, .par 0, [.fld 2 3], none, none⟩, ⟨.loc 52 0, .par 0, [.fld 2 3], none, none⟩, ⟨.loc 69 0, .par 0, [.fld 2 3], none, none⟩, ⟨.loc 105 0, .par 0, [.fld 1 2], none, none⟩, ⟨.loc 120 0, .par 0, [.fld 1 2], none, none⟩]), (20, [⟨.loc 23 0, .par 0, [.fld 2 3], none, none⟩, ⟨.loc 38 0, .par 0, [.fld 2 3], none, none⟩, ⟨.loc 52 0, .par 0, [.fld 2 3], none, none⟩, ⟨.loc 69 0, .par 0, [.fld 2 3], none, none⟩, ⟨.loc 105 0, .par 0, [.fld 1 2], none, none⟩, ⟨.loc 120 0, .par 0, [.fld 1 2], none, none⟩])] fun y => [V.tup (V.unit), e_TFa y]
noncomputable def S_fg : LabS :=
  lab0 Tryz.f66 2 1 X_fg (fun x => [(V.ptr (.par 0) []), e_TEv x.1, e_TFa x.2]) fun l => (d_TEv (at_ l 1), d_TFa (at_ l 2))
structure X_fg_20 where
  e_3 : TEv
  v_5 : Int
  o_0 : TFa
noncomputable def S_fg_20 : LabS :=
  labAt Tryz.f66 20 [(0, .any), (3, .any), (5, .any)] [sh_TFa] [] X_fg_20 (fun x => [(V.ptr (.par 0) []), (eVp e_TEv) x.e_3, (V.int .u64) x.v_5, e_TFa x.o_0]) fun l => ⟨(dVp d_TEv) (at_ l 1), dI (at_ l 2), d_TFa (at_ l 3)⟩
noncomputable def tt_fg_20 (x : X_fg_20) : TT Tryz.prog R_fg :=
 (.need (inb x.e_3.Thread x.o_0.p.Threads.n) <|
 (.need (inb x.e_3.Thread x.o_0.threads.n) <|
 (.need ((Nat.beq x.o_0.threads.n x.o_0.threads.n) && true) <|
 (.call con_f2a ((x.o_0.p.Threads.get (Int.toNat x.e_3.Thread)), ((x.o_0.threads.get ((0 : Nat) + (Int.toNat x.e_3.Thread))), (x.e_3, x.v_5))) fun (y1 : R_f2a) =>
 (.need (inb x.e_3.Thread x.o_0.threads.n) <|
 (.need ((Nat.beq x.o_0.threads.n x.o_0.threads.n) && true) <|
 (.need ((true && true) && (Nat.beq x.o_0.threads.n x.o_0.threads.n)) <|
 (.ret (TFa.mk x.o_0.p (Sl.mk x.o_0.threads.nil x.o_0.threads.n (fun i2 => (TTh.mk (cond (Nat.beq i2 ((0 : Nat) + (Int.toNat x.e_3.Thread))) y1.fst.At (x.o_0.threads.get i2).At) (cond (Nat.beq i2 ((0 : Nat) + (Int.toNat x.e_3.Thread))) y1.fst.Phase (x.o_0.threads.get i2).Phase) (cond (Nat.beq i2 ((0 : Nat) + (Int.toNat x.e_3.Thread))) y1.fst.Ring (x.o_0.threads.get i2).Ring) (cond (Nat.beq i2 ((0 : Nat) + (Int.toNat x.e_3.Thread))) y1.fst.Status (x.o_0.threads.get i2).Status) (cond (Nat.beq i2 ((0 : Nat) + (Int.toNat x.e_3.Thread))) y1.fst.Ticket (x.o_0.threads.get i2).Ticket) (fun i3 => (cond (Nat.beq i2 ((0 : Nat) + (Int.toNat x.e_3.Thread))) (y1.fst.Regs i3) ((x.o_0.threads.get i2).Regs i3))) (Sl.mk (cond (Nat.beq i2 ((0 : Nat) + (Int.toNat x.e_3.Thread))) y1.fst.Seen.nil (x.o_0.threads.get i2).Seen.nil) (cond (Nat.beq i2 ((0 : Nat) + (Int.toNat x.e_3.Thread))) y1.fst.Seen.n (x.o_0.threads.get i2).Seen.n) (fun i3 => (cond (Nat.beq i2 ((0 : Nat) + (Int.toNat x.e_3.Thread))) (y1.fst.Seen.get i3) ((x.o_0.threads.get i2).Seen.get i3))))))) x.o_0.rings x.o_0.now x.o_0.reads x.o_0.ended)))))))))
theorem sd_fg_20 (x : X_fg_20) : (tt_fg_20 x).Sides :=
  (TT.sN (TT.sN (TT.sN (TT.sC fun _ => (TT.sN (TT.sN (TT.sN TT.sR)))))))
noncomputable def D_fg_20 : Dyn X_fg_20 R_fg := .of tt_fg_20
theorem ok_fg_20 : LabOK J_fg S_fg_20 D_fg_20 :=
  lbk mxk lbn 4000 (fun x => by kernel_rfl) sd_fg_20
noncomputable def tt_fg (x : X_fg) : TT Tryz.prog R_fg :=
 (.call con_f15 (x.fst.Thread, x.snd) fun (y1 : R_f15) =>
 (.ite (ieq x.fst.Kind 1)
 (.call con_f2d (x.fst.Ring, x.snd) fun (y2 : R_f2d) =>
 (.jump S_fg_20 D_fg_20 (X_fg_20.mk x.fst 0 y2)))
 (.ite (ieq x.fst.Kind 2)
 (.need (inb x.fst.Ring x.snd.rings.n) <|
 (.need (((Nat.beq x.snd.rings.n x.snd.rings.n) && true) && (!(x.snd.rings.get ((0 : Nat) + (Int.toNat x.fst.Ring))).nil)) <|
 (.call con_f2m (x.fst.Ticket, (y1.Value, (x.snd.rings.get ((0 : Nat) + (Int.toNat x.fst.Ring))).x)) fun (y2 : R_f2m) =>
 (.need ((true && true) && ((Nat.beq x.snd.rings.n x.snd.rings.n) && (Nat.blt ((0 : Nat) + (Int.toNat x.fst.Ring)) x.snd.rings.n))) <|
 (.side ((fun v : Nat → V => v = v) (fun i3 => (cond (Nat.beq i3 ((0 : Nat) + (Int.toNat x.fst.Ring))) (V.ptr (Id.loc 27 0) List.nil) (V.obox (x.snd.rings.get i3).nil (e_TRr (x.snd.rings.get i3).x))))) <|
 (.need ((true && true) && (Nat.beq x.snd.rings.n x.snd.rings.n)) <|
 (.jump S_fg_20 D_fg_20 (X_fg_20.mk x.fst 0 (TFa.mk x.snd.p x.snd.threads (Sl.mk x.snd.rings.nil x.snd.rings.n (fun i3 => (Bx.mk (cond (Nat.beq i3 ((0 : Nat) + (Int.toNat x.fst.Ring))) false (x.snd.rings.get i3).nil) (TRr.mk (TRc.mk (cond (Nat.beq i3 ((0 : Nat) + (Int.toNat x.fst.Ring))) y2.snd.cursors.tail (x.snd.rings.get i3).x.cursors.tail) (Sl.mk (cond (Nat.beq i3 ((0 : Nat) + (Int.toNat x.fst.Ring))) y2.snd.cursors.heads.nil (x.snd.rings.get i3).x.cursors.heads.nil) (cond (Nat.beq i3 ((0 : Nat) + (Int.toNat x.fst.Ring))) y2.snd.cursors.heads.n (x.snd.rings.get i3).x.cursors.heads.n) (fun i4 => (cond (Nat.beq i3 ((0 : Nat) + (Int.toNat x.fst.Ring))) (y2.snd.cursors.heads.get i4) ((x.snd.rings.get i3).x.cursors.heads.get i4))))) (Bx.mk (cond (Nat.beq i3 ((0 : Nat) + (Int.toNat x.fst.Ring))) y2.snd.s.nil (x.snd.rings.get i3).x.s.nil) (TSs.mk (Sl.mk (cond (Nat.beq i3 ((0 : Nat) + (Int.toNat x.fst.Ring))) y2.snd.s.x.l.nil (x.snd.rings.get i3).x.s.x.l.nil) (cond (Nat.beq i3 ((0 : Nat) + (Int.toNat x.fst.Ring))) y2.snd.s.x.l.n (x.snd.rings.get i3).x.s.x.l.n) (fun i4 => (TSo.mk (cond (Nat.beq i3 ((0 : Nat) + (Int.toNat x.fst.Ring))) (y2.snd.s.x.l.get i4).Stamp ((x.snd.rings.get i3).x.s.x.l.get i4).Stamp) (cond (Nat.beq i3 ((0 : Nat) + (Int.toNat x.fst.Ring))) (y2.snd.s.x.l.get i4).Value ((x.snd.rings.get i3).x.s.x.l.get i4).Value) (cond (Nat.beq i3 ((0 : Nat) + (Int.toNat x.fst.Ring))) (y2.snd.s.x.l.get i4).Left ((x.snd.rings.get i3).x.s.x.l.get i4).Left)))) (cond (Nat.beq i3 ((0 : Nat) + (Int.toNat x.fst.Ring))) y2.snd.s.x.readers (x.snd.rings.get i3).x.s.x.readers))) (cond (Nat.beq i3 ((0 : Nat) + (Int.toNat x.fst.Ring))) y2.snd.most (x.snd.rings.get i3).x.most) (cond (Nat.beq i3 ((0 : Nat) + (Int.toNat x.fst.Ring))) y2.snd.closed (x.snd.rings.get i3).x.closed))))) x.snd.now x.snd.reads x.snd.ended)))))))))
 (.ite (ieq x.fst.Kind 3)
 (.need (inb x.fst.Ring x.snd.rings.n) <|
 (.need (((Nat.beq x.snd.rings.n x.snd.rings.n) && true) && (!(x.snd.rings.get ((0 : Nat) + (Int.toNat x.fst.Ring))).nil)) <|
 (.call con_f1a (y1.Reader, (x.snd.rings.get ((0 : Nat) + (Int.toNat x.fst.Ring))).x) fun (y2 : R_f1a) =>
 (.need ((true && true) && ((Nat.beq x.snd.rings.n x.snd.rings.n) && (Nat.blt ((0 : Nat) + (Int.toNat x.fst.Ring)) x.snd.rings.n))) <|
 (.side ((fun v : Nat → V => v = v) (fun i3 => (cond (Nat.beq i3 ((0 : Nat) + (Int.toNat x.fst.Ring))) (V.ptr (Id.loc 42 0) List.nil) (V.obox (x.snd.rings.get i3).nil (e_TRr (x.snd.rings.get i3).x))))) <|
 (.need ((true && true) && (Nat.beq x.snd.rings.n x.snd.rings.n)) <|
 (.jump S_fg_20 D_fg_20 (X_fg_20.mk x.fst 0 (TFa.mk x.snd.p x.snd.threads (Sl.mk x.snd.rings.nil x.snd.rings.n (fun i3 => (Bx.mk (cond (Nat.beq i3 ((0 : Nat) + (Int.toNat x.fst.Ring))) false (x.snd.rings.get i3).nil) (TRr.mk (TRc.mk (cond (Nat.beq i3 ((0 : Nat) + (Int.toNat x.fst.Ring))) y2.snd.snd.cursors.tail (x.snd.rings.get i3).x.cursors.tail) (Sl.mk (cond (Nat.beq i3 ((0 : Nat) + (Int.toNat x.fst.Ring))) y2.snd.snd.cursors.heads.nil (x.snd.rings.get i3).x.cursors.heads.nil) (cond (Nat.beq i3 ((0 : Nat) + (Int.toNat x.fst.Ring))) y2.snd.snd.cursors.heads.n (x.snd.rings.get i3).x.cursors.heads.n) (fun i4 => (cond (Nat.beq i3 ((0 : Nat) + (Int.toNat x.fst.Ring))) (y2.snd.snd.cursors.heads.get i4) ((x.snd.rings.get i3).x.cursors.heads.get i4))))) (Bx.mk (cond (Nat.beq i3 ((0 : Nat) + (Int.toNat x.fst.Ring))) y2.snd.snd.s.nil (x.snd.rings.get i3).x.s.nil) (TSs.mk (Sl.mk (cond (Nat.beq i3 ((0 : Nat) + (Int.toNat x.fst.Ring))) y2.snd.snd.s.x.l.nil (x.snd.rings.get i3).x.s.x.l.nil) (cond (Nat.beq i3 ((0 : Nat) + (Int.toNat x.fst.Ring))) y2.snd.snd.s.x.l.n (x.snd.rings.get i3).x.s.x.l.n) (fun i4 => (TSo.mk (cond (Nat.beq i3 ((0 : Nat) + (Int.toNat x.fst.Ring))) (y2.snd.snd.s.x.l.get i4).Stamp ((x.snd.rings.get i3).x.s.x.l.get i4).Stamp) (cond (Nat.beq i3 ((0 : Nat) + (Int.toNat x.fst.Ring))) (y2.snd.snd.s.x.l.get i4).Value ((x.snd.rings.get i3).x.s.x.l.get i4).Value) (cond (Nat.beq i3 ((0 : Nat) + (Int.toNat x.fst.Ring))) (y2.snd.snd.s.x.l.get i4).Left ((x.snd.rings.get i3).x.s.x.l.get i4).Left)))) (cond (Nat.beq i3 ((0 : Nat) + (Int.toNat x.fst.Ring))) y2.snd.snd.s.x.readers (x.snd.rings.get i3).x.s.x.readers))) (cond (Nat.beq i3 ((0 : Nat) + (Int.toNat x.fst.Ring))) y2.snd.snd.most (x.snd.rings.get i3).x.most) (cond (Nat.beq i3 ((0 : Nat) + (Int.toNat x.fst.Ring))) y2.snd.snd.closed (x.snd.rings.get i3).x.closed))))) x.snd.now x.snd.reads x.snd.ended)))))))))
 (.ite (ieq x.fst.Kind 4)
 (.need (inb x.fst.Ring x.snd.rings.n) <|
 (.need (((Nat.beq x.snd.rings.n x.snd.rings.n) && true) && (!(x.snd.rings.get ((0 : Nat) + (Int.toNat x.fst.Ring))).nil)) <|
 (.call con_f2n (y1.Reader, (x.fst.Ticket, (x.snd.rings.get ((0 : Nat) + (Int.toNat x.fst.Ring))).x)) fun (y2 : R_f2n) =>
 (.need ((true && true) && ((Nat.beq x.snd.rings.n x.snd.rings.n) && (Nat.blt ((0 : Nat) + (Int.toNat x.fst.Ring)) x.snd.rings.n))) <|
 (.side ((fun v : Nat → V => v = v) (fun i3 => (cond (Nat.beq i3 ((0 : Nat) + (Int.toNat x.fst.Ring))) (V.ptr (Id.loc 56 0) List.nil) (V.obox (x.snd.rings.get i3).nil (e_TRr (x.snd.rings.get i3).x))))) <|
 (.need ((true && true) && (Nat.beq x.snd.rings.n x.snd.rings.n)) <|
 (.jump S_fg_20 D_fg_20 (X_fg_20.mk x.fst y2.fst (TFa.mk x.snd.p x.snd.threads (Sl.mk x.snd.rings.nil x.snd.rings.n (fun i3 => (Bx.mk (cond (Nat.beq i3 ((0 : Nat) + (Int.toNat x.fst.Ring))) false (x.snd.rings.get i3).nil) (TRr.mk (TRc.mk (cond (Nat.beq i3 ((0 : Nat) + (Int.toNat x.fst.Ring))) y2.snd.snd.cursors.tail (x.snd.rings.get i3).x.cursors.tail) (Sl.mk (cond (Nat.beq i3 ((0 : Nat) + (Int.toNat x.fst.Ring))) y2.snd.snd.cursors.heads.nil (x.snd.rings.get i3).x.cursors.heads.nil) (cond (Nat.beq i3 ((0 : Nat) + (Int.toNat x.fst.Ring))) y2.snd.snd.cursors.heads.n (x.snd.rings.get i3).x.cursors.heads.n) (fun i4 => (cond (Nat.beq i3 ((0 : Nat) + (Int.toNat x.fst.Ring))) (y2.snd.snd.cursors.heads.get i4) ((x.snd.rings.get i3).x.cursors.heads.get i4))))) (Bx.mk (cond (Nat.beq i3 ((0 : Nat) + (Int.toNat x.fst.Ring))) y2.snd.snd.s.nil (x.snd.rings.get i3).x.s.nil) (TSs.mk (Sl.mk (cond (Nat.beq i3 ((0 : Nat) + (Int.toNat x.fst.Ring))) y2.snd.snd.s.x.l.nil (x.snd.rings.get i3).x.s.x.l.nil) (cond (Nat.beq i3 ((0 : Nat) + (Int.toNat x.fst.Ring))) y2.snd.snd.s.x.l.n (x.snd.rings.get i3).x.s.x.l.n) (fun i4 => (TSo.mk (cond (Nat.beq i3 ((0 : Nat) + (Int.toNat x.fst.Ring))) (y2.snd.snd.s.x.l.get i4).Stamp ((x.snd.rings.get i3).x.s.x.l.get i4).Stamp) (cond (Nat.beq i3 ((0 : Nat) + (Int.toNat x.fst.Ring))) (y2.snd.snd.s.x.l.get i4).Value ((x.snd.rings.get i3).x.s.x.l.get i4).Value) (cond (Nat.beq i3 ((0 : Nat) + (Int.toNat x.fst.Ring))) (y2.snd.snd.s.x.l.get i4).Left ((x.snd.rings.get i3).x.s.x.l.get i4).Left)))) (cond (Nat.beq i3 ((0 : Nat) + (Int.toNat x.fst.Ring))) y2.snd.snd.s.x.readers (x.snd.rings.get i3).x.s.x.readers))) (cond (Nat.beq i3 ((0 : Nat) + (Int.toNat x.fst.Ring))) y2.snd.snd.most (x.snd.rings.get i3).x.most) (cond (Nat.beq i3 ((0 : Nat) + (Int.toNat x.fst.Ring))) y2.snd.snd.closed (x.snd.rings.get i3).x.closed))))) x.snd.now x.snd.reads x.snd.ended)))))))))
 (.ite (ieq x.fst.Kind 13)
 (.need (inb x.fst.Ring x.snd.rings.n) <|
 (.need (((Nat.beq x.snd.rings.n x.snd.rings.n) && true) && (!(x.snd.rings.get ((0 : Nat) + (Int.toNat x.fst.Ring))).nil)) <|
 (.call con_f2z (x.snd.rings.get ((0 : Nat) + (Int.toNat x.fst.Ring))).x fun (y2 : R_f2z) =>
 (.need ((true && true) && ((Nat.beq x.snd.rings.n x.snd.rings.n) && (Nat.blt ((0 : Nat) + (Int.toNat x.fst.Ring)) x.snd.rings.n))) <|
 (.side ((fun v : Nat → V => v = v) (fun i3 => (cond (Nat.beq i3 ((0 : Nat) + (Int.toNat x.fst.Ring))) (V.ptr (Id.loc 73 0) List.nil) (V.obox (x.snd.rings.get i3).nil (e_TRr (x.snd.rings.get i3).x))))) <|
 (.need ((true && true) && (Nat.beq x.snd.rings.n x.snd.rings.n)) <|
 (.jump S_fg_20 D_fg_20 (X_fg_20.mk x.fst 0 (TFa.mk x.snd.p x.snd.threads (Sl.mk x.snd.rings.nil x.snd.rings.n (fun i3 => (Bx.mk (cond (Nat.beq i3 ((0 : Nat) + (Int.toNat x.fst.Ring))) false (x.snd.rings.get i3).nil) (TRr.mk (TRc.mk (cond (Nat.beq i3 ((0 : Nat) + (Int.toNat x.fst.Ring))) y2.snd.cursors.tail (x.snd.rings.get i3).x.cursors.tail) (Sl.mk (cond (Nat.beq i3 ((0 : Nat) + (Int.toNat x.fst.Ring))) y2.snd.cursors.heads.nil (x.snd.rings.get i3).x.cursors.heads.nil) (cond (Nat.beq i3 ((0 : Nat) + (Int.toNat x.fst.Ring))) y2.snd.cursors.heads.n (x.snd.rings.get i3).x.cursors.heads.n) (fun i4 => (cond (Nat.beq i3 ((0 : Nat) + (Int.toNat x.fst.Ring))) (y2.snd.cursors.heads.get i4) ((x.snd.rings.get i3).x.cursors.heads.get i4))))) (Bx.mk (cond (Nat.beq i3 ((0 : Nat) + (Int.toNat x.fst.Ring))) y2.snd.s.nil (x.snd.rings.get i3).x.s.nil) (TSs.mk (Sl.mk (cond (Nat.beq i3 ((0 : Nat) + (Int.toNat x.fst.Ring))) y2.snd.s.x.l.nil (x.snd.rings.get i3).x.s.x.l.nil) (cond (Nat.beq i3 ((0 : Nat) + (Int.toNat x.fst.Ring))) y2.snd.s.x.l.n (x.snd.rings.get i3).x.s.x.l.n) (fun i4 => (TSo.mk (cond (Nat.beq i3 ((0 : Nat) + (Int.toNat x.fst.Ring))) (y2.snd.s.x.l.get i4).Stamp ((x.snd.rings.get i3).x.s.x.l.get i4).Stamp) (cond (Nat.beq i3 ((0 : Nat) + (Int.toNat x.fst.Ring))) (y2.snd.s.x.l.get i4).Value ((x.snd.rings.get i3).x.s.x.l.get i4).Value) (cond (Nat.beq i3 ((0 : Nat) + (Int.toNat x.fst.Ring))) (y2.snd.s.x.l.get i4).Left ((x.snd.rings.get i3).x.s.x.l.get i4).Left)))) (cond (Nat.beq i3 ((0 : Nat) + (Int.toNat x.fst.Ring))) y2.snd.s.x.readers (x.snd.rings.get i3).x.s.x.readers))) (cond (Nat.beq i3 ((0 : Nat) + (Int.toNat x.fst.Ring))) y2.snd.most (x.snd.rings.get i3).x.most) (cond (Nat.beq i3 ((0 : Nat) + (Int.toNat x.fst.Ring))) y2.snd.closed (x.snd.rings.get i3).x.closed))))) x.snd.now x.snd.reads x.snd.ended)))))))))
 (.ite (ieq x.fst.Kind 8)
 (.jump S_fg_20 D_fg_20 (X_fg_20.mk x.fst 0 (TFa.mk x.snd.p x.snd.threads x.snd.rings (imax x.snd.now x.fst.Value) x.snd.reads x.snd.ended)))
 (.ite (ieq x.fst.Kind 10)
 (.jump S_fg_20 D_fg_20 (X_fg_20.mk x.fst 0 (TFa.mk x.snd.p x.snd.threads x.snd.rings x.snd.now (IntKind.u64.wrap (x.snd.reads + 1)) x.snd.ended)))
 (.ite (ieq x.fst.Kind 11)
 (.jump S_fg_20 D_fg_20 (X_fg_20.mk x.fst 0 (TFa.mk x.snd.p x.snd.threads x.snd.rings x.snd.now x.snd.reads true)))
 (.jump S_fg_20 D_fg_20 (X_fg_20.mk x.fst 0 x.snd)))))))))))
theorem sd_fg (x : X_fg) : (tt_fg x).Sides :=
  (TT.sC fun _ => (TT.sI (TT.sC fun _ => TT.sJ) (TT.sI (TT.sN (TT.sN (TT.sC fun _ => (TT.sN (TT.sS rfl (TT.sN TT.sJ)))))) (TT.sI (TT.sN (TT.sN (TT.sC fun _ => (TT.sN (TT.sS rfl (TT.sN TT.sJ)))))) (TT.sI (TT.sN (TT.sN (TT.sC fun _ => (TT.sN (TT.sS rfl (TT.sN TT.sJ)))))) (TT.sI (TT.sN (TT.sN (TT.sC fun _ => (TT.sN (TT.sS rfl (TT.sN TT.sJ)))))) (TT.sI TT.sJ (TT.sI TT.sJ (TT.sI TT.sJ TT.sJ)))))))))
noncomputable def D_fg : Dyn X_fg R_fg := .of tt_fg
noncomputable def con_fg : Con Tryz.prog :=
  mkCon 66 J_fg S_fg D_fg D_fg (fun _ _ h => h) 2 1 [.any, .any] (by kernel_rfl) (by kernel_rfl) (by kernel_rfl) (lbk mxk (lbc ok_fg_20 rfl lbn) 4000 (fun x => by kernel_rfl) sd_fg) rfl rfl (fun _ => rfl) (by kernel_rfl) rfl (fun _ => rfl) (fun x y _ => by kernel_rfl)
abbrev X_f2f : Type := TEv × TFa
abbrev R_f2f : Type := Int × TFa
noncomputable def J_f2f : Job Tryz.prog :=
  job Tryz.prog Tryz.f22 19 [(3, 3)] [] [] [] [.any] [sh_TFa] [con_ff, con_fg, con_f12] R_f2f [] fun y => [(V.int .i64) y.1, e_TFa y.2]
noncomputable def S_f2f : LabS :=
  lab0 Tryz.f22 2 1 X_f2f (fun x => [(V.ptr (.par 0) []), e_TEv x.1, e_TFa x.2]) fun l => (d_TEv (at_ l 1), d_TFa (at_ l 2))
noncomputable def tt_f2f (x : X_f2f) : TT Tryz.prog R_f2f :=
 (.call con_f12 (x.fst, x.snd) fun (y1 : R_f12) =>
 (.ite (!(ieq y1 0))
 (.ret (y1, x.snd))
 (.call con_ff (x.fst, x.snd) fun (y2 : R_ff) =>
 (.ite (!y2)
 (.ret (11, x.snd))
 (.call con_fg (x.fst, x.snd) fun (y3 : R_fg) =>
 (.ret (0, y3)))))))
theorem sd_f2f (x : X_f2f) : (tt_f2f x).Sides :=
  (TT.sC fun _ => (TT.sI TT.sR (TT.sC fun _ => (TT.sI TT.sR (TT.sC fun _ => TT.sR)))))
noncomputable def D_f2f : Dyn X_f2f R_f2f := .of tt_f2f
noncomputable def con_f2f : Con Tryz.prog :=
  mkCon 22 J_f2f S_f2f D_f2f D_f2f (fun _ _ h => h) 2 1 [.any, .any] (by kernel_rfl) (by kernel_rfl) (by kernel_rfl) (lbk mxk lbn 4000 (fun x => by kernel_rfl) sd_f2f) rfl rfl (fun _ => rfl) (by kernel_rfl) rfl (fun _ => rfl) (fun x y _ => by kernel_rfl)
abbrev Dsl_TRs : Type := (Sl TRs)
def esl_TRs : Dsl_TRs → V := (eSl none 4 e_TRs)
def dsl_TRs : V → Dsl_TRs := (dSl d_TRs)
def hsl_TRs : Sh := (.sl none 4 (e_TRs (d_TRs .undef)))
structure TSt where
  Threads : (Sl TTh)
  Rings : (Sl TRs)
  Now : Int
  Reads : Int
  Ended : Bool
def d_TSt (v : V) : TSt :=
  ⟨dsl_TTh (fd v 0), dsl_TRs (fd v 1), dI (fd v 2), dI (fd v 3), dB (fd v 4)⟩
def e_TSt (x : TSt) : V :=
  V.cons (esl_TTh x.Threads) (V.cons (esl_TRs x.Rings) (V.cons ((V.int .u64) x.Now) (V.cons ((V.int .u64) x.Reads) (V.cons (V.bool x.Ended) (V.unit)))))
theorem nu_e_TSt (x : TSt) : (e_TSt x).NoU := ⟨trivial, trivial, trivial, trivial, trivial, trivial⟩
def sh_TSt : Sh := (.cons hsl_TTh (.cons hsl_TRs .any))
abbrev X_fi : Type := (Ar TTh)
abbrev R_fi : Type := (Sl TTh)
abbrev RR_fi : Type := (Sl TTh) × (Ar TTh)
abbrev p_fi (y : RR_fi) : (Ar TTh) := y.2
abbrev w_fi (x : X_fi) : (Ar TTh) := x
noncomputable def J_fi : Job Tryz.prog :=
  job Tryz.prog Tryz.f52 8 [(5, 1), (6, 1)] [] [] [.shut 2] [hosl_TTh] [.any] [] RR_fi [] fun y => [eosl_TTh y.1, (eAr 14 e_TTh) y.2]
noncomputable def S_fi : LabS :=
  lab0 Tryz.f52 1 1 X_fi (fun x => [(V.own (.par 0) [] 14 x.n 0 x.n), (eAr 14 e_TTh) x]) fun l => ((dAr d_TTh) (at_ l 1))
noncomputable def tt_fi (x : X_fi) : TT Tryz.prog RR_fi :=
 (.need (Nat.blt 0 x.n) <|
 (.need ((true && (Nat.beq x.n x.n)) && (room ((0 : Nat) + x.n) 128)) <|
 (.side (∀ i1 : Nat, ((i1 < x.n) → ((true && (true && (true && (true && (true && ((true && (true && (true && (true && (true && (true && (true && (true && true)))))))) && (true && true))))))) = true))) <|
 (.ret ((Sl.mk (cond (Nat.beq x.n 0) false false) ((0 : Nat) + x.n) (fun i1 => (TTh.mk (cond (Nat.blt i1 0) (0 : Int) (x.get ((0 : Nat) + (i1 - 0))).At) (cond (Nat.blt i1 0) (0 : Int) (x.get ((0 : Nat) + (i1 - 0))).Phase) (cond (Nat.blt i1 0) (0 : Int) (x.get ((0 : Nat) + (i1 - 0))).Ring) (cond (Nat.blt i1 0) (0 : Int) (x.get ((0 : Nat) + (i1 - 0))).Status) (cond (Nat.blt i1 0) (0 : Int) (x.get ((0 : Nat) + (i1 - 0))).Ticket) (fun i2 => (cond (Nat.blt i1 0) (0 : Int) ((x.get ((0 : Nat) + (i1 - 0))).Regs i2))) (Sl.mk (cond (Nat.blt i1 0) true (x.get ((0 : Nat) + (i1 - 0))).Seen.nil) (cond (Nat.blt i1 0) (0 : Nat) (x.get ((0 : Nat) + (i1 - 0))).Seen.n) (fun i2 => (cond (Nat.blt i1 0) (0 : Int) ((x.get ((0 : Nat) + (i1 - 0))).Seen.get i2))))))), x)))))
theorem sd_fi (x : X_fi) : (tt_fi x).Sides :=
  (TT.sN (TT.sN (TT.sS (fun _ _ => rfl) TT.sR)))
theorem roT_fi (x : X_fi) : TT.Ro p_fi (w_fi x) (tt_fi x) :=
  (TT.rN (TT.rN (TT.rS (TT.rR rfl))))
noncomputable def D_fi : Dyn X_fi R_fi := .ro (.of tt_fi) (fun y => (y.1)) (fun y x => (y, x)) fun x y h => congrArg (fun o => (y.1, o)) (roT_fi x y h)
noncomputable def con_fi : Con Tryz.prog :=
  mkConP 52 J_fi S_fi (.of tt_fi) D_fi (fun y x => (y, x)) (fun _ _ h => h) (fun y => eosl_TTh y) 1 1 [.any] (by kernel_rfl) (by kernel_rfl) (by kernel_rfl) (lbk mxk lbn 4000 (fun x => by kernel_rfl) sd_fi) rfl rfl (fun _ => rfl) (by kernel_rfl) rfl (fun _ _ => rfl) (fun _ => rfl) (fun x => ⟨(fun _ _ => (nu_e_TTh) _ : ∀ y, ((eAr 14 e_TTh) y).NoU) (x), trivial⟩)
abbrev X_f1o : Type := (Sl Int)
abbrev R_f1o : Type := (Sl Int)
noncomputable def J_f1o : Job Tryz.prog :=
  job Tryz.prog Tryz.f53 8 [(6, 1)] [] [] [.shut 2] [hsl_u64] [] [] R_f1o [] fun y => [esl_u64 y]
noncomputable def S_f1o : LabS :=
  lab0 Tryz.f53 1 0 X_f1o (fun x => [esl_u64 x]) fun l => (dsl_u64 (at_ l 0))
noncomputable def tt_f1o (x : X_f1o) : TT Tryz.prog R_f1o :=
 (.ite x.nil
 (.ret (Sl.mk true 0 (fun _i1 => (0 : Int))))
 (.need (true && (room ((0 : Nat) + x.n) 8)) <|
 (.ret (Sl.mk (cond (Nat.beq x.n 0) false false) ((0 : Nat) + x.n) (fun i1 => (cond (Nat.blt i1 0) (0 : Int) (x.get (i1 - 0))))))))
theorem sd_f1o (x : X_f1o) : (tt_f1o x).Sides :=
  (TT.sI TT.sR (TT.sN TT.sR))
noncomputable def D_f1o : Dyn X_f1o R_f1o := .of tt_f1o
noncomputable def con_f1o : Con Tryz.prog :=
  mkCon 53 J_f1o S_f1o D_f1o D_f1o (fun _ _ h => h) 1 0 [hsl_u64] (by kernel_rfl) (by kernel_rfl) (by kernel_rfl) (lbk mxk lbn 4000 (fun x => by kernel_rfl) sd_f1o) rfl rfl (fun _ => rfl) (by kernel_rfl) rfl (fun _ => rfl) (fun x y _ => by kernel_rfl)
abbrev DslA_TRs : Type := (Sl TRs)
def eslA_TRs : DslA_TRs → V := (eSl (some 93) 4 e_TRs)
def dslA_TRs : V → DslA_TRs := (dSl d_TRs)
def hslA_TRs : Sh := (.sl (some 93) 4 (e_TRs (d_TRs .undef)))
def e_TSt_o0_1 (x : TSt) : V :=
  V.cons (eosl_TTh x.Threads) (V.cons (eslA_TRs x.Rings) (V.cons ((V.int .u64) x.Now) (V.cons ((V.int .u64) x.Reads) (V.cons (V.bool x.Ended) (V.unit)))))
theorem nu_e_TSt_o0_1 (x : TSt) : (e_TSt_o0_1 x).NoU := ⟨(fun _ _ => (nu_e_TTh) _ : ∀ y, (eosl_TTh y).NoU) x.Threads, trivial, trivial, trivial, trivial, trivial⟩
def sh_TSt_o0_1 : Sh := (.cons hosl_TTh (.cons hslA_TRs .any))
def e_TSt_1 (x : TSt) : V :=
  V.cons (esl_TTh x.Threads) (V.cons (eslA_TRs x.Rings) (V.cons ((V.int .u64) x.Now) (V.cons ((V.int .u64) x.Reads) (V.cons (V.bool x.Ended) (V.unit)))))
theorem nu_e_TSt_1 (x : TSt) : (e_TSt_1 x).NoU := ⟨trivial, trivial, trivial, trivial, trivial, trivial⟩
def sh_TSt_1 : Sh := (.cons hsl_TTh (.cons hslA_TRs .any))
abbrev X_f3 : Type := TFa
abbrev R_f3 : Type := TSt
abbrev RR_f3 : Type := TSt × TFa
abbrev p_f3 (y : RR_f3) : TFa := y.2
abbrev w_f3 (x : X_f3) : TFa := x
noncomputable def J_f3 : Job Tryz.prog :=
  job Tryz.prog Tryz.f17 64 [(56, 1)] [(4, [.back (.loc 12 0)]), (5, [.back (.loc 37 0), .back (.loc 34 0), .back (.loc 28 0), .back (.loc 12 0)]), (6, [.back (.loc 37 0), .back (.loc 34 0), .back (.loc 28 0), .back (.loc 12 0)]), (7, [.back (.loc 37 0), .back (.loc 34 0), .back (.loc 28 0), .back (.loc 12 0)]), (8, [.back (.loc 37 0), .back (.loc 34 0), .back (.loc 28 0), .back (.loc 12 0)]), (9, [.back (.loc 37 0), .back (.loc 34 0), .back (.loc 28 0), .back (.loc 12 0), .frz (.loc 2 0) [.fld 0 0]]), (10, [.back (.loc 54 0), .back (.loc 37 0), .back (.loc 34 0), .back (.loc 28 0), .back (.loc 12 0)]), (11, [.back (.loc 54 0), .back (.loc 37 0), .back (.loc 34 0), .back (.loc 28 0), .back (.loc 12 0)]), (12, [.back (.loc 37 0), .back (.loc 34 0), .back (.loc 28 0), .back (.loc 12 0)]), (13, [.back (.loc 54 0), .back (.loc 37 0), .back (.loc 34 0), .back (.loc 28 0), .back (.loc 12 0)]), (14, [.back (.loc 54 0), .back (.loc 49 0), .back (.loc 37 0), .back (.loc 34 0), .back (.loc 28 0), .back (.loc 12 0)])] [(3, [.opn (.par 0) [.fld 1 2] 12]), (7, [.opn (.loc 2 0) [.fld 0 0] 34, .opn (.loc 2 0) [.fld 0 0] 37])] [.back (.loc 54 0), .back (.loc 49 0), .back (.loc 37 0), .back (.loc 34 0), .back (.loc 28 0), .back (.loc 12 0)] [sh_TSt] [sh_TFa] [con_f1l, con_fi, con_f1o] RR_f3 [(0, [⟨.loc 12 0, .par 0, [.fld 1 2], none, none⟩, ⟨.loc 34 0, .loc 2 0, [.fld 0 0], none, none⟩, ⟨.loc 37 0, .loc 2 0, [.fld 0 0], none, none⟩]), (5, [⟨.loc 12 0, .par 0, [.fld 1 2], none, none⟩, ⟨.loc 34 0, .loc 2 0, [.fld 0 0], none, none⟩, ⟨.loc 37 0, .loc 2 0, [.fld 0 0], none, none⟩]), (9, [⟨.loc 12 0, .par 0, [.fld 1 2], none, none⟩, ⟨.loc 34 0, .loc 2 0, [.fld 0 0], none, none⟩, ⟨.loc 37 0, .loc 2 0, [.fld 0 0], none, none⟩]), (10, [⟨.loc 49 0, .par 0, [.fld 2 3], none, none⟩, ⟨.loc 12 0, .par 0, [.fld 1 2], none, none⟩, ⟨.loc 34 0, .loc 2 0, [.fld 0 0], none, none⟩, ⟨.loc 37 0, .loc 2 0, [.fld 0 0], none, none⟩])] fun y => [e_TSt y.1, e_TFa y.2]
noncomputable def S_f3 : LabS :=
  lab0 Tryz.f17 1 1 X_f3 (fun x => [(V.ptr (.par 0) []), e_TFa x]) fun l => (d_TFa (at_ l 1))
structure X_f3_5 where
  q_29 : Int
  q_30 : Int
  o_0 : TFa
  m_2 : TSt
noncomputable def S_f3_5 : LabS :=
  labAt Tryz.f17 5 [(0, .any), (2, .any), (29, .any), (30, .any)] [sh_TFa] [(.loc 2 0, sh_TSt_o0_1)] X_f3_5 (fun x => [(V.ptr (.par 0) []), (V.ptr (.loc 2 0) []), (V.int .i64) x.q_29, (V.int .i64) x.q_30, e_TFa x.o_0, e_TSt_o0_1 x.m_2]) fun l => ⟨dI (at_ l 2), dI (at_ l 3), d_TFa (at_ l 4), d_TSt (at_ l 5)⟩
structure X_f3_9 where
  o_0 : TFa
  m_2 : TSt
noncomputable def S_f3_9 : LabS :=
  labAt Tryz.f17 9 [(0, .any), (2, .any)] [sh_TFa] [(.loc 2 0, sh_TSt_1)] X_f3_9 (fun x => [(V.ptr (.par 0) []), (V.ptr (.loc 2 0) []), e_TFa x.o_0, e_TSt_1 x.m_2]) fun l => ⟨d_TFa (at_ l 2), d_TSt (at_ l 3)⟩
structure X_f3_10 where
  q_50 : Int
  q_51 : Int
  o_0 : TFa
  m_2 : TSt
noncomputable def S_f3_10 : LabS :=
  labAt Tryz.f17 10 [(2, .any), (49, .any), (50, .any), (51, .any)] [sh_TFa] [(.loc 2 0, sh_TSt_1), (.loc 49 0, .any)] X_f3_10 (fun x => [(V.ptr (.loc 2 0) []), (V.own (.loc 49 0) [] 1 x.o_0.rings.n 0 x.o_0.rings.n), (V.int .i64) x.q_50, (V.int .i64) x.q_51, V.cons (e_TPg x.o_0.p) (V.cons (eosl_TTh x.o_0.threads) (V.cons (V.lent (.loc 49 0) 69 1 x.o_0.rings.nil x.o_0.rings.n) (V.cons ((V.int .u64) x.o_0.now) (V.cons ((V.int .u64) x.o_0.reads) (V.cons (V.bool x.o_0.ended) (V.unit)))))), e_TSt_1 x.m_2, (V.arr 1 x.o_0.rings.n fun i => ebox_TRr (x.o_0.rings.get i))]) fun l => ⟨dI (at_ l 2), dI (at_ l 3), { d_TFa (at_ l 4) with rings := ⟨(dLn (fd (at_ l 4) 2)).nil, (dLn (fd (at_ l 4) 2)).n, (dAr dbox_TRr (at_ l 6)).get⟩ }, d_TSt (at_ l 5)⟩
abbrev w_f3_5 (x : X_f3_5) : TFa := (x.o_0)
abbrev w_f3_9 (x : X_f3_9) : TFa := (x.o_0)
abbrev w_f3_10 (x : X_f3_10) : TFa := (x.o_0)
noncomputable def tt_f3_10 (D_f3_10 : Dyn X_f3_10 RR_f3) (x : X_f3_10) : TT Tryz.prog RR_f3 :=
 (.ite (ilt x.q_51 x.q_50)
 (.need (inb x.q_51 x.o_0.rings.n) <|
 (.need (((Nat.beq x.o_0.rings.n x.o_0.rings.n) && true) && (!(x.o_0.rings.get ((0 : Nat) + (Int.toNat x.q_51))).nil)) <|
 (.call con_f1l (x.o_0.rings.get ((0 : Nat) + (Int.toNat x.q_51))).x fun (y2 : R_f1l) =>
 (.need (true && (room (x.m_2.Rings.n + 1) 64)) <|
 (.need ((true && true) && (((Nat.beq x.o_0.rings.n x.o_0.rings.n) && (Nat.blt ((0 : Nat) + (Int.toNat x.q_51)) x.o_0.rings.n)) && (!(x.o_0.rings.get ((0 : Nat) + (Int.toNat x.q_51))).nil))) <|
 (.side (((fun v : Nat → V => v = v) (fun i3 => (cond (Nat.beq i3 ((0 : Nat) + (Int.toNat x.q_51))) (V.ptr (Id.loc 54 0) List.nil) (V.obox (x.o_0.rings.get i3).nil (e_TRr (x.o_0.rings.get i3).x))))) ∧ (((fun v : V => v = v) (e_TRr (x.o_0.rings.get ((0 : Nat) + (Int.toNat x.q_51))).x)) ∧ ((fun v : V => v = v) (V.obox (x.o_0.rings.get ((0 : Nat) + (Int.toNat x.q_51))).nil (e_TRr (x.o_0.rings.get ((0 : Nat) + (Int.toNat x.q_51))).x))))) <|
 (.jump S_f3_10 D_f3_10 (X_f3_10.mk x.q_50 (IntKind.i64.wrap (x.q_51 + 1)) x.o_0 (TSt.mk x.m_2.Threads (Sl.mk (cond (Nat.beq 1 0) x.m_2.Rings.nil false) (x.m_2.Rings.n + 1) (fun i3 => (TRs.mk (cond (Nat.blt i3 x.m_2.Rings.n) (x.m_2.Rings.get i3).Tail y2.Tail) (Sl.mk (cond (Nat.blt i3 x.m_2.Rings.n) (x.m_2.Rings.get i3).Heads.nil y2.Heads.nil) (cond (Nat.blt i3 x.m_2.Rings.n) (x.m_2.Rings.get i3).Heads.n y2.Heads.n) (fun i4 => (cond (Nat.blt i3 x.m_2.Rings.n) ((x.m_2.Rings.get i3).Heads.get i4) (y2.Heads.get i4)))) (cond (Nat.blt i3 x.m_2.Rings.n) (x.m_2.Rings.get i3).Closed y2.Closed) (Sl.mk (cond (Nat.blt i3 x.m_2.Rings.n) (x.m_2.Rings.get i3).Slots.nil y2.Slots.nil) (cond (Nat.blt i3 x.m_2.Rings.n) (x.m_2.Rings.get i3).Slots.n y2.Slots.n) (fun i4 => (TSo.mk (cond (Nat.blt i3 x.m_2.Rings.n) ((x.m_2.Rings.get i3).Slots.get i4).Stamp (y2.Slots.get i4).Stamp) (cond (Nat.blt i3 x.m_2.Rings.n) ((x.m_2.Rings.get i3).Slots.get i4).Value (y2.Slots.get i4).Value) (cond (Nat.blt i3 x.m_2.Rings.n) ((x.m_2.Rings.get i3).Slots.get i4).Left (y2.Slots.get i4).Left))))))) x.m_2.Now x.m_2.Reads x.m_2.Ended)))))))))
 (.need ((true && true) && (Nat.beq x.o_0.rings.n x.o_0.rings.n)) <|
 (.ret (x.m_2, x.o_0))))
theorem sd_f3_10 (D_f3_10 : Dyn X_f3_10 RR_f3) (x : X_f3_10) : (tt_f3_10 D_f3_10 x).Sides :=
  (TT.sI (TT.sN (TT.sN (TT.sC fun _ => (TT.sN (TT.sN (TT.sS ⟨rfl, ⟨rfl, rfl⟩⟩ TT.sJ)))))) (TT.sN TT.sR))
theorem roT_f3_10 (D_f3_10 : Dyn X_f3_10 RR_f3) (r_fabric_Fabric_State_10 : ∀ x y, D_f3_10.rel x y → p_f3 y = w_f3_10 x) (x : X_f3_10) : TT.Ro p_f3 (w_f3_10 x) (tt_f3_10 D_f3_10 x) :=
  (TT.rI (TT.rN (TT.rN (TT.rC fun _ => (TT.rN (TT.rN (TT.rS (TT.rJ (r_fabric_Fabric_State_10 _)))))))) (TT.rN (TT.rR rfl)))
noncomputable def D_f3_10 : Dyn X_f3_10 RR_f3 := Dyn.loop tt_f3_10
theorem ok_f3_10 : LabOK J_f3 S_f3_10 D_f3_10 :=
  loop_ok fun D_f3_10 h_10 => lbk mxk (lbc h_10 rfl lbn) 4000 (fun x => by kernel_rfl) (sd_f3_10 D_f3_10)
theorem ro_f3_10 : ∀ x y, D_f3_10.rel x y → p_f3 y = w_f3_10 x :=
  loop_ro fun D_f3_10 r_fabric_Fabric_State_10 => roT_f3_10 D_f3_10 r_fabric_Fabric_State_10
noncomputable def tt_f3_9 (x : X_f3_9) : TT Tryz.prog RR_f3 :=
 (.jump S_f3_10 D_f3_10 (X_f3_10.mk ((x.o_0.rings.n : Nat) : Int) 0 x.o_0 x.m_2))
theorem sd_f3_9 (x : X_f3_9) : (tt_f3_9 x).Sides :=
  TT.sJ
theorem roT_f3_9 (x : X_f3_9) : TT.Ro p_f3 (w_f3_9 x) (tt_f3_9 x) :=
  (TT.rJ (ro_f3_10 _))
noncomputable def D_f3_9 : Dyn X_f3_9 RR_f3 := .of tt_f3_9
theorem ok_f3_9 : LabOK J_f3 S_f3_9 D_f3_9 :=
  lbk mxk (lbc ok_f3_10 rfl lbn) 4000 (fun x => by kernel_rfl) sd_f3_9
theorem ro_f3_9 : ∀ x y, D_f3_9.rel x y → p_f3 y = w_f3_9 x :=
  roT_f3_9 
noncomputable def tt_f3_5 (D_f3_5 : Dyn X_f3_5 RR_f3) (x : X_f3_5) : TT Tryz.prog RR_f3 :=
 (.ite (ilt x.q_30 x.q_29)
 (.need (inb x.q_30 x.m_2.Threads.n) <|
 (.need ((Nat.beq x.m_2.Threads.n x.m_2.Threads.n) && true) <|
 (.call con_f1o (x.m_2.Threads.get ((0 : Nat) + (Int.toNat x.q_30))).Seen fun (y2 : R_f1o) =>
 (.need (inb x.q_30 x.m_2.Threads.n) <|
 (.need ((Nat.beq x.m_2.Threads.n x.m_2.Threads.n) && true) <|
 (.need ((true && true) && (Nat.beq x.m_2.Threads.n x.m_2.Threads.n)) <|
 (.jump S_f3_5 D_f3_5 (X_f3_5.mk x.q_29 (IntKind.i64.wrap (x.q_30 + 1)) x.o_0 (TSt.mk (Sl.mk x.m_2.Threads.nil x.m_2.Threads.n (fun i3 => (TTh.mk (cond (Nat.beq i3 ((0 : Nat) + (Int.toNat x.q_30))) (x.m_2.Threads.get ((0 : Nat) + (Int.toNat x.q_30))).At (x.m_2.Threads.get i3).At) (cond (Nat.beq i3 ((0 : Nat) + (Int.toNat x.q_30))) (x.m_2.Threads.get ((0 : Nat) + (Int.toNat x.q_30))).Phase (x.m_2.Threads.get i3).Phase) (cond (Nat.beq i3 ((0 : Nat) + (Int.toNat x.q_30))) (x.m_2.Threads.get ((0 : Nat) + (Int.toNat x.q_30))).Ring (x.m_2.Threads.get i3).Ring) (cond (Nat.beq i3 ((0 : Nat) + (Int.toNat x.q_30))) (x.m_2.Threads.get ((0 : Nat) + (Int.toNat x.q_30))).Status (x.m_2.Threads.get i3).Status) (cond (Nat.beq i3 ((0 : Nat) + (Int.toNat x.q_30))) (x.m_2.Threads.get ((0 : Nat) + (Int.toNat x.q_30))).Ticket (x.m_2.Threads.get i3).Ticket) (fun i4 => (cond (Nat.beq i3 ((0 : Nat) + (Int.toNat x.q_30))) ((x.m_2.Threads.get ((0 : Nat) + (Int.toNat x.q_30))).Regs i4) ((x.m_2.Threads.get i3).Regs i4))) (Sl.mk (cond (Nat.beq i3 ((0 : Nat) + (Int.toNat x.q_30))) y2.nil (x.m_2.Threads.get i3).Seen.nil) (cond (Nat.beq i3 ((0 : Nat) + (Int.toNat x.q_30))) y2.n (x.m_2.Threads.get i3).Seen.n) (fun i4 => (cond (Nat.beq i3 ((0 : Nat) + (Int.toNat x.q_30))) (y2.get i4) ((x.m_2.Threads.get i3).Seen.get i4))))))) x.m_2.Rings x.m_2.Now x.m_2.Reads x.m_2.Ended)))))))))
 (.side (∀ i2 : Nat, ((i2 < x.m_2.Threads.n) → ((true && (true && (true && (true && (true && ((true && (true && (true && (true && (true && (true && (true && (true && true)))))))) && (true && true))))))) = true))) <|
 (.jump S_f3_9 D_f3_9 (X_f3_9.mk x.o_0 x.m_2))))
theorem sd_f3_5 (D_f3_5 : Dyn X_f3_5 RR_f3) (x : X_f3_5) : (tt_f3_5 D_f3_5 x).Sides :=
  (TT.sI (TT.sN (TT.sN (TT.sC fun _ => (TT.sN (TT.sN (TT.sN TT.sJ)))))) (TT.sS (fun _ _ => rfl) TT.sJ))
theorem roT_f3_5 (D_f3_5 : Dyn X_f3_5 RR_f3) (r_fabric_Fabric_State_5 : ∀ x y, D_f3_5.rel x y → p_f3 y = w_f3_5 x) (x : X_f3_5) : TT.Ro p_f3 (w_f3_5 x) (tt_f3_5 D_f3_5 x) :=
  (TT.rI (TT.rN (TT.rN (TT.rC fun _ => (TT.rN (TT.rN (TT.rN (TT.rJ (r_fabric_Fabric_State_5 _)))))))) (TT.rS (TT.rJ (ro_f3_9 _))))
noncomputable def D_f3_5 : Dyn X_f3_5 RR_f3 := Dyn.loop tt_f3_5
theorem ok_f3_5 : LabOK J_f3 S_f3_5 D_f3_5 :=
  loop_ok fun D_f3_5 h_5 => lbk mxk (lbc h_5 rfl (lbc ok_f3_10 rfl (lbc ok_f3_9 rfl lbn))) 4000 (fun x => by kernel_rfl) (sd_f3_5 D_f3_5)
theorem ro_f3_5 : ∀ x y, D_f3_5.rel x y → p_f3 y = w_f3_5 x :=
  loop_ro fun D_f3_5 r_fabric_Fabric_State_5 => roT_f3_5 D_f3_5 r_fabric_Fabric_State_5
noncomputable def tt_f3 (x : X_f3) : TT Tryz.prog RR_f3 :=
 (.call con_fi (Ar.mk x.threads.n x.threads.get) fun (y1 : R_fi) =>
 (.need ((true && true) && (Nat.beq x.threads.n x.threads.n)) <|
 (.need ((true && true) && (Nat.beq y1.n y1.n)) <|
 (.jump S_f3_5 D_f3_5 (X_f3_5.mk ((y1.n : Nat) : Int) 0 x (TSt.mk y1 (Sl.mk true 0 (fun _i2 => (TRs.mk 0 (Sl.mk true 0 (fun _i3 => (0 : Int))) false (Sl.mk true 0 (fun _i3 => (TSo.mk 0 0 0)))))) x.now x.reads x.ended))))))
theorem sd_f3 (x : X_f3) : (tt_f3 x).Sides :=
  (TT.sC fun _ => (TT.sN (TT.sN TT.sJ)))
theorem roT_f3 (x : X_f3) : TT.Ro p_f3 (w_f3 x) (tt_f3 x) :=
  (TT.rC fun _ => (TT.rN (TT.rN (TT.rJ (ro_f3_5 _)))))
noncomputable def D_f3 : Dyn X_f3 R_f3 := .ro (.of tt_f3) (fun y => (y.1)) (fun y x => (y, x)) fun x y h => congrArg (fun o => (y.1, o)) (roT_f3 x y h)
noncomputable def con_f3 : Con Tryz.prog :=
  mkConP 17 J_f3 S_f3 (.of tt_f3) D_f3 (fun y x => (y, x)) (fun _ _ h => h) (fun y => e_TSt y) 1 1 [.any] (by kernel_rfl) (by kernel_rfl) (by kernel_rfl) (lbk mxk (lbc ok_f3_10 rfl (lbc ok_f3_9 rfl (lbc ok_f3_5 rfl lbn))) 4000 (fun x => by kernel_rfl) sd_f3) rfl rfl (fun _ => rfl) (by kernel_rfl) rfl (fun _ _ => rfl) (fun _ => rfl) (fun x => ⟨(nu_e_TFa : ∀ y, (e_TFa y).NoU) (x), trivial⟩)
abbrev X_f17 : Type := Int × TFa
abbrev R_f17 : Type := Bool
abbrev RR_f17 : Type := Bool × TFa
abbrev p_f17 (y : RR_f17) : TFa := y.2
abbrev w_f17 (x : X_f17) : TFa := x.2
noncomputable def J_f17 : Job Tryz.prog :=
  job Tryz.prog Tryz.f78 57 [] [(2, [.back (.loc 9 0)]), (3, [.back (.loc 9 0)]), (4, [.back (.loc 9 0)]), (5, [.back (.loc 26 0), .back (.loc 22 0), .back (.loc 9 0)]), (6, [.back (.loc 26 0), .back (.loc 22 0), .back (.loc 9 0)]), (7, [.back (.loc 40 0), .back (.loc 36 0), .back (.loc 26 0), .back (.loc 22 0), .back (.loc 9 0)])] [(4, [.opn (.par 0) [.fld 2 3] 22]), (6, [.opn (.par 0) [.fld 2 3] 36])] [.back (.loc 40 0), .back (.loc 36 0), .back (.loc 26 0), .back (.loc 22 0), .back (.loc 9 0)] [.any] [sh_TFa] [con_fr, con_f1y] RR_f17 [(0, [⟨.loc 22 0, .par 0, [.fld 2 3], none, none⟩, ⟨.loc 36 0, .par 0, [.fld 2 3], none, none⟩])] fun y => [V.bool y.1, e_TFa y.2]
noncomputable def S_f17 : LabS :=
  lab0 Tryz.f78 2 1 X_f17 (fun x => [(V.ptr (.par 0) []), (V.int .i64) x.1, e_TFa x.2]) fun l => (dI (at_ l 1), d_TFa (at_ l 2))
noncomputable def tt_f17 (x : X_f17) : TT Tryz.prog RR_f17 :=
 (.need (inb x.fst x.snd.threads.n) <|
 (.need ((Nat.beq x.snd.threads.n x.snd.threads.n) && true) <|
 (.need ((true && true) && (Nat.beq x.snd.threads.n x.snd.threads.n)) <|
 (.ite (ieq (x.snd.threads.get ((0 : Nat) + (Int.toNat x.fst))).Phase 1)
 (.need (inb (x.snd.threads.get ((0 : Nat) + (Int.toNat x.fst))).Ring x.snd.rings.n) <|
 (.need (((Nat.beq x.snd.rings.n x.snd.rings.n) && true) && (!(x.snd.rings.get ((0 : Nat) + (Int.toNat (x.snd.threads.get ((0 : Nat) + (Int.toNat x.fst))).Ring))).nil)) <|
 (.call con_f1y (x.snd.rings.get ((0 : Nat) + (Int.toNat (x.snd.threads.get ((0 : Nat) + (Int.toNat x.fst))).Ring))).x fun (y1 : R_f1y) =>
 (.need ((true && true) && (((Nat.beq x.snd.rings.n x.snd.rings.n) && (Nat.blt ((0 : Nat) + (Int.toNat (x.snd.threads.get ((0 : Nat) + (Int.toNat x.fst))).Ring)) x.snd.rings.n)) && (!(x.snd.rings.get ((0 : Nat) + (Int.toNat (x.snd.threads.get ((0 : Nat) + (Int.toNat x.fst))).Ring))).nil))) <|
 (.side (((fun v : Nat → V => v = v) (fun i2 => (cond (Nat.beq i2 ((0 : Nat) + (Int.toNat (x.snd.threads.get ((0 : Nat) + (Int.toNat x.fst))).Ring))) (V.ptr (Id.loc 26 0) List.nil) (V.obox (x.snd.rings.get i2).nil (e_TRr (x.snd.rings.get i2).x))))) ∧ (((fun v : V => v = v) (e_TRr (x.snd.rings.get ((0 : Nat) + (Int.toNat (x.snd.threads.get ((0 : Nat) + (Int.toNat x.fst))).Ring))).x)) ∧ ((fun v : V => v = v) (V.obox (x.snd.rings.get ((0 : Nat) + (Int.toNat (x.snd.threads.get ((0 : Nat) + (Int.toNat x.fst))).Ring))).nil (e_TRr (x.snd.rings.get ((0 : Nat) + (Int.toNat (x.snd.threads.get ((0 : Nat) + (Int.toNat x.fst))).Ring))).x))))) <|
 (.need ((true && true) && (Nat.beq x.snd.rings.n x.snd.rings.n)) <|
 (.ret ((ilt (x.snd.threads.get ((0 : Nat) + (Int.toNat x.fst))).Ticket y1), x.snd))))))))
 (.ite (ieq (x.snd.threads.get ((0 : Nat) + (Int.toNat x.fst))).Phase 2)
 (.need (inb (x.snd.threads.get ((0 : Nat) + (Int.toNat x.fst))).Ring x.snd.rings.n) <|
 (.need (((Nat.beq x.snd.rings.n x.snd.rings.n) && true) && (!(x.snd.rings.get ((0 : Nat) + (Int.toNat (x.snd.threads.get ((0 : Nat) + (Int.toNat x.fst))).Ring))).nil)) <|
 (.need (inb x.fst x.snd.p.Threads.n) <|
 (.need (inb (x.snd.threads.get ((0 : Nat) + (Int.toNat x.fst))).At (x.snd.p.Threads.get (Int.toNat x.fst)).n) <|
 (.call con_fr ((IntKind.i64.wrap ((x.snd.p.Threads.get (Int.toNat x.fst)).get (Int.toNat (x.snd.threads.get ((0 : Nat) + (Int.toNat x.fst))).At)).K), (x.snd.rings.get ((0 : Nat) + (Int.toNat (x.snd.threads.get ((0 : Nat) + (Int.toNat x.fst))).Ring))).x) fun (y1 : R_fr) =>
 (.need ((true && true) && (((Nat.beq x.snd.rings.n x.snd.rings.n) && (Nat.blt ((0 : Nat) + (Int.toNat (x.snd.threads.get ((0 : Nat) + (Int.toNat x.fst))).Ring)) x.snd.rings.n)) && (!(x.snd.rings.get ((0 : Nat) + (Int.toNat (x.snd.threads.get ((0 : Nat) + (Int.toNat x.fst))).Ring))).nil))) <|
 (.side (((fun v : Nat → V => v = v) (fun i2 => (cond (Nat.beq i2 ((0 : Nat) + (Int.toNat (x.snd.threads.get ((0 : Nat) + (Int.toNat x.fst))).Ring))) (V.ptr (Id.loc 40 0) List.nil) (V.obox (x.snd.rings.get i2).nil (e_TRr (x.snd.rings.get i2).x))))) ∧ (((fun v : V => v = v) (e_TRr (x.snd.rings.get ((0 : Nat) + (Int.toNat (x.snd.threads.get ((0 : Nat) + (Int.toNat x.fst))).Ring))).x)) ∧ ((fun v : V => v = v) (V.obox (x.snd.rings.get ((0 : Nat) + (Int.toNat (x.snd.threads.get ((0 : Nat) + (Int.toNat x.fst))).Ring))).nil (e_TRr (x.snd.rings.get ((0 : Nat) + (Int.toNat (x.snd.threads.get ((0 : Nat) + (Int.toNat x.fst))).Ring))).x))))) <|
 (.need ((true && true) && (Nat.beq x.snd.rings.n x.snd.rings.n)) <|
 (.ret ((ilt (x.snd.threads.get ((0 : Nat) + (Int.toNat x.fst))).Ticket y1), x.snd))))))))))
 (.ret (true, x.snd)))))))
theorem sd_f17 (x : X_f17) : (tt_f17 x).Sides :=
  (TT.sN (TT.sN (TT.sN (TT.sI (TT.sN (TT.sN (TT.sC fun _ => (TT.sN (TT.sS ⟨rfl, ⟨rfl, rfl⟩⟩ (TT.sN TT.sR)))))) (TT.sI (TT.sN (TT.sN (TT.sN (TT.sN (TT.sC fun _ => (TT.sN (TT.sS ⟨rfl, ⟨rfl, rfl⟩⟩ (TT.sN TT.sR)))))))) TT.sR)))))
theorem roT_f17 (x : X_f17) : TT.Ro p_f17 (w_f17 x) (tt_f17 x) :=
  (TT.rN (TT.rN (TT.rN (TT.rI (TT.rN (TT.rN (TT.rC fun _ => (TT.rN (TT.rS (TT.rN (TT.rR rfl))))))) (TT.rI (TT.rN (TT.rN (TT.rN (TT.rN (TT.rC fun _ => (TT.rN (TT.rS (TT.rN (TT.rR rfl))))))))) (TT.rR rfl))))))
noncomputable def D_f17 : Dyn X_f17 R_f17 := .ro (.of tt_f17) (fun y => (y.1)) (fun y x => (y, x.2)) fun x y h => congrArg (fun o => (y.1, o)) (roT_f17 x y h)
noncomputable def con_f17 : Con Tryz.prog :=
  mkConP 78 J_f17 S_f17 (.of tt_f17) D_f17 (fun y x => (y, x.2)) (fun _ _ h => h) (fun y => V.bool y) 2 1 [.any, .any] (by kernel_rfl) (by kernel_rfl) (by kernel_rfl) (lbk mxk lbn 4000 (fun x => by kernel_rfl) sd_f17) rfl rfl (fun _ => rfl) (by kernel_rfl) rfl (fun _ _ => rfl) (fun _ => rfl) (fun x => ⟨(nu_e_TFa : ∀ y, (e_TFa y).NoU) (x.2), trivial⟩)
abbrev X_f8 : Type := TPg × TSt
abbrev R_f8 : Type := (Bx TFa) × Int
noncomputable def J_f8 : Job Tryz.prog :=
  job Tryz.prog Tryz.f37 123 [(2, 3), (3, 3), (12, 1), (64, 1), (122, 1)] [(6, [.open_ 6]), (8, [.close (.loc 68 0)]), (9, [.close (.loc 68 0)]), (10, [.close (.loc 68 0)]), (11, [.close (.loc 68 0)]), (12, [.close (.loc 68 0)]), (13, [.close (.loc 68 0)]), (14, [.close (.loc 68 0)]), (15, [.close (.loc 103 0), .close (.loc 68 0)]), (16, [.close (.loc 103 0), .close (.loc 68 0)]), (17, [.close (.loc 103 0), .close (.loc 68 0)]), (18, [.close (.loc 103 0), .close (.loc 68 0)]), (19, [.close (.loc 103 0), .close (.loc 68 0)]), (20, [.close (.loc 103 0), .close (.loc 68 0)]), (21, [.close (.loc 103 0), .close (.loc 68 0)]), (22, [.close (.loc 103 0), .close (.loc 68 0)])] [(10, [.opn (.loc 6 1) [.fld 2 3] 68]), (18, [.opn (.loc 6 1) [.fld 1 2] 103])] [.close (.loc 103 0), .close (.loc 68 0), .shut 4] [hbox_TFa, .any] [] [con_f17, con_f19, con_fd, con_f1o, con_fu] R_f8 [(0, [⟨.loc 68 0, .loc 6 1, [.fld 2 3], none, none⟩, ⟨.loc 103 0, .loc 6 1, [.fld 1 2], none, none⟩]), (6, [⟨.loc 68 0, .loc 6 1, [.fld 2 3], none, none⟩, ⟨.loc 103 0, .loc 6 1, [.fld 1 2], none, none⟩]), (8, [⟨.loc 68 0, .loc 6 1, [.fld 2 3], none, none⟩, ⟨.loc 103 0, .loc 6 1, [.fld 1 2], none, none⟩]), (13, [⟨.loc 68 0, .loc 6 1, [.fld 2 3], none, none⟩, ⟨.loc 103 0, .loc 6 1, [.fld 1 2], none, none⟩]), (14, [⟨.loc 68 0, .loc 6 1, [.fld 2 3], none, none⟩, ⟨.loc 103 0, .loc 6 1, [.fld 1 2], none, none⟩]), (15, [⟨.loc 68 0, .loc 6 1, [.fld 2 3], none, none⟩, ⟨.loc 103 0, .loc 6 1, [.fld 1 2], none, none⟩]), (21, [⟨.loc 68 0, .loc 6 1, [.fld 2 3], none, none⟩, ⟨.loc 103 0, .loc 6 1, [.fld 1 2], none, none⟩])] fun y => [V.tup (V.cons (ebox_TFa y.1) (V.cons ((V.int .i64) y.2) (V.unit)))]
noncomputable def S_f8 : LabS :=
  lab0 Tryz.f37 2 0 X_f8 (fun x => [e_TPg x.1, e_TSt x.2]) fun l => (d_TPg (at_ l 0), d_TSt (at_ l 1))
structure X_f8_6 where
  p_2 : TPg
  s_3 : TSt
  n_6 : TFa
noncomputable def S_f8_6 : LabS :=
  labAt Tryz.f37 6 [(2, .any), (3, .any), (6, .any)] [] [(.loc 6 1, sh_TFa)] X_f8_6 (fun x => [(eVp e_TPg) x.p_2, (eVp e_TSt) x.s_3, (V.ptr (.loc 6 1) []), e_TFa x.n_6]) fun l => ⟨(dVp d_TPg) (at_ l 0), (dVp d_TSt) (at_ l 1), d_TFa (at_ l 3)⟩
structure X_f8_8 where
  p_2 : TPg
  s_3 : TSt
  q_57 : (Sl TRs)
  q_58 : Int
  q_59 : Int
  n_6 : TFa
noncomputable def S_f8_8 : LabS :=
  labAt Tryz.f37 8 [(2, .any), (3, .any), (6, .any), (57, hsl_TRs), (58, .any), (59, .any)] [] [(.loc 6 1, sh_TFa)] X_f8_8 (fun x => [(eVp e_TPg) x.p_2, (eVp e_TSt) x.s_3, (V.ptr (.loc 6 1) []), esl_TRs x.q_57, (V.int .i64) x.q_58, (V.int .i64) x.q_59, e_TFa x.n_6]) fun l => ⟨(dVp d_TPg) (at_ l 0), (dVp d_TSt) (at_ l 1), dsl_TRs (at_ l 3), dI (at_ l 4), dI (at_ l 5), d_TFa (at_ l 6)⟩
structure X_f8_13 where
  p_2 : TPg
  s_3 : TSt
  q_57 : (Sl TRs)
  q_58 : Int
  q_59 : Int
  n_6 : TFa
noncomputable def S_f8_13 : LabS :=
  labAt Tryz.f37 13 [(2, .any), (3, .any), (6, .any), (57, hsl_TRs), (58, .any), (59, .any)] [] [(.loc 6 1, sh_TFa)] X_f8_13 (fun x => [(eVp e_TPg) x.p_2, (eVp e_TSt) x.s_3, (V.ptr (.loc 6 1) []), esl_TRs x.q_57, (V.int .i64) x.q_58, (V.int .i64) x.q_59, e_TFa x.n_6]) fun l => ⟨(dVp d_TPg) (at_ l 0), (dVp d_TSt) (at_ l 1), dsl_TRs (at_ l 3), dI (at_ l 4), dI (at_ l 5), d_TFa (at_ l 6)⟩
structure X_f8_14 where
  p_2 : TPg
  s_3 : TSt
  n_6 : TFa
noncomputable def S_f8_14 : LabS :=
  labAt Tryz.f37 14 [(2, .any), (3, .any), (6, .any)] [] [(.loc 6 1, sh_TFa)] X_f8_14 (fun x => [(eVp e_TPg) x.p_2, (eVp e_TSt) x.s_3, (V.ptr (.loc 6 1) []), e_TFa x.n_6]) fun l => ⟨(dVp d_TPg) (at_ l 0), (dVp d_TSt) (at_ l 1), d_TFa (at_ l 3)⟩
structure X_f8_15 where
  p_2 : TPg
  q_89 : (Sl TTh)
  q_90 : Int
  q_91 : Int
  n_6 : TFa
noncomputable def S_f8_15 : LabS :=
  labAt Tryz.f37 15 [(2, .any), (6, .any), (89, hsl_TTh), (90, .any), (91, .any)] [] [(.loc 6 1, sh_TFa)] X_f8_15 (fun x => [(eVp e_TPg) x.p_2, (V.ptr (.loc 6 1) []), esl_TTh x.q_89, (V.int .i64) x.q_90, (V.int .i64) x.q_91, e_TFa x.n_6]) fun l => ⟨(dVp d_TPg) (at_ l 0), dsl_TTh (at_ l 2), dI (at_ l 3), dI (at_ l 4), d_TFa (at_ l 5)⟩
structure X_f8_21 where
  p_2 : TPg
  q_89 : (Sl TTh)
  q_90 : Int
  q_91 : Int
  n_6 : TFa
noncomputable def S_f8_21 : LabS :=
  labAt Tryz.f37 21 [(2, .any), (6, .any), (89, hsl_TTh), (90, .any), (91, .any)] [] [(.loc 6 1, sh_TFa)] X_f8_21 (fun x => [(eVp e_TPg) x.p_2, (V.ptr (.loc 6 1) []), esl_TTh x.q_89, (V.int .i64) x.q_90, (V.int .i64) x.q_91, e_TFa x.n_6]) fun l => ⟨(dVp d_TPg) (at_ l 0), dsl_TTh (at_ l 2), dI (at_ l 3), dI (at_ l 4), d_TFa (at_ l 5)⟩
noncomputable def tt_f8_21 (D_f8_15 : Dyn X_f8_15 R_f8) (x : X_f8_21) : TT Tryz.prog R_f8 :=
 (.jump S_f8_15 D_f8_15 (X_f8_15.mk x.p_2 x.q_89 x.q_90 (IntKind.i64.wrap (x.q_91 + 1)) x.n_6))
theorem sd_f8_21 (D_f8_15 : Dyn X_f8_15 R_f8) (x : X_f8_21) : (tt_f8_21 D_f8_15 x).Sides :=
  TT.sJ
noncomputable def D_f8_21 (D_f8_15 : Dyn X_f8_15 R_f8) : Dyn X_f8_21 R_f8 := .of (tt_f8_21 D_f8_15)
theorem ok_f8_21 (D_f8_15 : Dyn X_f8_15 R_f8) (h_15 : LabOK J_f8 S_f8_15 D_f8_15) : LabOK J_f8 S_f8_21 (D_f8_21 D_f8_15) :=
  lbk mxk (lbc h_15 rfl lbn) 4000 (fun x => by kernel_rfl) (sd_f8_21 D_f8_15)
noncomputable def tt_f8_15 (D_f8_15 : Dyn X_f8_15 R_f8) (x : X_f8_15) : TT Tryz.prog R_f8 :=
 (.ite (ilt x.q_91 x.q_90)
 (.need (inb x.q_91 x.q_89.n) <|
 (.call con_f1o (x.q_89.get (Int.toNat x.q_91)).Seen fun (y2 : R_f1o) =>
 (.need (inb x.q_91 x.n_6.threads.n) <|
 (.need ((Nat.beq x.n_6.threads.n x.n_6.threads.n) && true) <|
 (.need ((true && true) && (Nat.beq x.n_6.threads.n x.n_6.threads.n)) <|
 (.need (inb x.q_91 x.p_2.Threads.n) <|
 (.call con_fu ((x.p_2.Threads.get (Int.toNat x.q_91)), (TTh.mk (x.q_89.get (Int.toNat x.q_91)).At (x.q_89.get (Int.toNat x.q_91)).Phase (x.q_89.get (Int.toNat x.q_91)).Ring (x.q_89.get (Int.toNat x.q_91)).Status (x.q_89.get (Int.toNat x.q_91)).Ticket (x.q_89.get (Int.toNat x.q_91)).Regs y2)) fun (y3 : R_fu) =>
 (.ite (!y3)
 (.ret ((Bx.mk true (TFa.mk (TPg.mk (Sl.mk true 0 (fun _i4 => (TRg.mk 0 0 0))) (Sl.mk true 0 (fun _i4 => (Sl.mk true 0 (fun _i5 => (TIn.mk 0 0 0 0 0 0)))))) (Sl.mk true 0 (fun _i4 => (TTh.mk 0 0 0 0 0 (fun _i5 => (0 : Int)) (Sl.mk true 0 (fun _i5 => (0 : Int)))))) (Sl.mk true 0 (fun _i4 => (Bx.mk true (TRr.mk (TRc.mk 0 (Sl.mk true 0 (fun _i5 => (0 : Int)))) (Bx.mk true (TSs.mk (Sl.mk true 0 (fun _i5 => (TSo.mk 0 0 0))) 0)) 0 false)))) 0 0 false)), 3))
 (.call con_f17 (x.q_91, (TFa.mk x.n_6.p (Sl.mk x.n_6.threads.nil x.n_6.threads.n (fun i4 => (TTh.mk (cond (Nat.beq i4 ((0 : Nat) + (Int.toNat x.q_91))) (x.q_89.get (Int.toNat x.q_91)).At (x.n_6.threads.get i4).At) (cond (Nat.beq i4 ((0 : Nat) + (Int.toNat x.q_91))) (x.q_89.get (Int.toNat x.q_91)).Phase (x.n_6.threads.get i4).Phase) (cond (Nat.beq i4 ((0 : Nat) + (Int.toNat x.q_91))) (x.q_89.get (Int.toNat x.q_91)).Ring (x.n_6.threads.get i4).Ring) (cond (Nat.beq i4 ((0 : Nat) + (Int.toNat x.q_91))) (x.q_89.get (Int.toNat x.q_91)).Status (x.n_6.threads.get i4).Status) (cond (Nat.beq i4 ((0 : Nat) + (Int.toNat x.q_91))) (x.q_89.get (Int.toNat x.q_91)).Ticket (x.n_6.threads.get i4).Ticket) (fun i5 => (cond (Nat.beq i4 ((0 : Nat) + (Int.toNat x.q_91))) ((x.q_89.get (Int.toNat x.q_91)).Regs i5) ((x.n_6.threads.get i4).Regs i5))) (Sl.mk (cond (Nat.beq i4 ((0 : Nat) + (Int.toNat x.q_91))) y2.nil (x.n_6.threads.get i4).Seen.nil) (cond (Nat.beq i4 ((0 : Nat) + (Int.toNat x.q_91))) y2.n (x.n_6.threads.get i4).Seen.n) (fun i5 => (cond (Nat.beq i4 ((0 : Nat) + (Int.toNat x.q_91))) (y2.get i5) ((x.n_6.threads.get i4).Seen.get i5))))))) x.n_6.rings x.n_6.now x.n_6.reads x.n_6.ended)) fun (y4 : R_f17) =>
 (.ite (!y4)
 (.ret ((Bx.mk true (TFa.mk (TPg.mk (Sl.mk true 0 (fun _i5 => (TRg.mk 0 0 0))) (Sl.mk true 0 (fun _i5 => (Sl.mk true 0 (fun _i6 => (TIn.mk 0 0 0 0 0 0)))))) (Sl.mk true 0 (fun _i5 => (TTh.mk 0 0 0 0 0 (fun _i6 => (0 : Int)) (Sl.mk true 0 (fun _i6 => (0 : Int)))))) (Sl.mk true 0 (fun _i5 => (Bx.mk true (TRr.mk (TRc.mk 0 (Sl.mk true 0 (fun _i6 => (0 : Int)))) (Bx.mk true (TSs.mk (Sl.mk true 0 (fun _i6 => (TSo.mk 0 0 0))) 0)) 0 false)))) 0 0 false)), 3))
 (.jump S_f8_21 (D_f8_21 D_f8_15) (X_f8_21.mk x.p_2 x.q_89 x.q_90 x.q_91 (TFa.mk x.n_6.p (Sl.mk x.n_6.threads.nil x.n_6.threads.n (fun i5 => (TTh.mk (cond (Nat.beq i5 ((0 : Nat) + (Int.toNat x.q_91))) (x.q_89.get (Int.toNat x.q_91)).At (x.n_6.threads.get i5).At) (cond (Nat.beq i5 ((0 : Nat) + (Int.toNat x.q_91))) (x.q_89.get (Int.toNat x.q_91)).Phase (x.n_6.threads.get i5).Phase) (cond (Nat.beq i5 ((0 : Nat) + (Int.toNat x.q_91))) (x.q_89.get (Int.toNat x.q_91)).Ring (x.n_6.threads.get i5).Ring) (cond (Nat.beq i5 ((0 : Nat) + (Int.toNat x.q_91))) (x.q_89.get (Int.toNat x.q_91)).Status (x.n_6.threads.get i5).Status) (cond (Nat.beq i5 ((0 : Nat) + (Int.toNat x.q_91))) (x.q_89.get (Int.toNat x.q_91)).Ticket (x.n_6.threads.get i5).Ticket) (fun i6 => (cond (Nat.beq i5 ((0 : Nat) + (Int.toNat x.q_91))) ((x.q_89.get (Int.toNat x.q_91)).Regs i6) ((x.n_6.threads.get i5).Regs i6))) (Sl.mk (cond (Nat.beq i5 ((0 : Nat) + (Int.toNat x.q_91))) y2.nil (x.n_6.threads.get i5).Seen.nil) (cond (Nat.beq i5 ((0 : Nat) + (Int.toNat x.q_91))) y2.n (x.n_6.threads.get i5).Seen.n) (fun i6 => (cond (Nat.beq i5 ((0 : Nat) + (Int.toNat x.q_91))) (y2.get i6) ((x.n_6.threads.get i5).Seen.get i6))))))) x.n_6.rings x.n_6.now x.n_6.reads x.n_6.ended)))))))))))))
 (.ret ((Bx.mk false x.n_6), 0)))
theorem sd_f8_15 (D_f8_15 : Dyn X_f8_15 R_f8) (x : X_f8_15) : (tt_f8_15 D_f8_15 x).Sides :=
  (TT.sI (TT.sN (TT.sC fun _ => (TT.sN (TT.sN (TT.sN (TT.sN (TT.sC fun _ => (TT.sI TT.sR (TT.sC fun _ => (TT.sI TT.sR TT.sJ)))))))))) TT.sR)
noncomputable def D_f8_15 : Dyn X_f8_15 R_f8 := Dyn.loop tt_f8_15
theorem ok_f8_15 : LabOK J_f8 S_f8_15 D_f8_15 :=
  loop_ok fun D_f8_15 h_15 => lbk mxk (lbc h_15 rfl (lbc (ok_f8_21 D_f8_15 h_15) rfl lbn)) 4000 (fun x => by kernel_rfl) (sd_f8_15 D_f8_15)
noncomputable def tt_f8_14 (x : X_f8_14) : TT Tryz.prog R_f8 :=
 (.jump S_f8_15 D_f8_15 (X_f8_15.mk x.p_2 x.s_3.Threads ((x.s_3.Threads.n : Nat) : Int) 0 x.n_6))
theorem sd_f8_14 (x : X_f8_14) : (tt_f8_14 x).Sides :=
  TT.sJ
noncomputable def D_f8_14 : Dyn X_f8_14 R_f8 := .of tt_f8_14
theorem ok_f8_14 : LabOK J_f8 S_f8_14 D_f8_14 :=
  lbk mxk (lbc ok_f8_15 rfl lbn) 4000 (fun x => by kernel_rfl) sd_f8_14
noncomputable def tt_f8_13 (D_f8_8 : Dyn X_f8_8 R_f8) (x : X_f8_13) : TT Tryz.prog R_f8 :=
 (.jump S_f8_8 D_f8_8 (X_f8_8.mk x.p_2 x.s_3 x.q_57 x.q_58 (IntKind.i64.wrap (x.q_59 + 1)) x.n_6))
theorem sd_f8_13 (D_f8_8 : Dyn X_f8_8 R_f8) (x : X_f8_13) : (tt_f8_13 D_f8_8 x).Sides :=
  TT.sJ
noncomputable def D_f8_13 (D_f8_8 : Dyn X_f8_8 R_f8) : Dyn X_f8_13 R_f8 := .of (tt_f8_13 D_f8_8)
theorem ok_f8_13 (D_f8_8 : Dyn X_f8_8 R_f8) (h_8 : LabOK J_f8 S_f8_8 D_f8_8) : LabOK J_f8 S_f8_13 (D_f8_13 D_f8_8) :=
  lbk mxk (lbc h_8 rfl (lbc ok_f8_15 rfl (lbc ok_f8_14 rfl lbn))) 4000 (fun x => by kernel_rfl) (sd_f8_13 D_f8_8)
noncomputable def tt_f8_8 (D_f8_8 : Dyn X_f8_8 R_f8) (x : X_f8_8) : TT Tryz.prog R_f8 :=
 (.ite (ilt x.q_59 x.q_58)
 (.need (inb x.q_59 x.q_57.n) <|
 (.need (inb x.q_59 x.p_2.Rings.n) <|
 (.call con_fd ((x.p_2.Rings.get (Int.toNat x.q_59)), (x.q_57.get (Int.toNat x.q_59))) fun (y2 : R_fd) =>
 (.need (inb x.q_59 x.n_6.rings.n) <|
 (.need ((Nat.beq x.n_6.rings.n x.n_6.rings.n) && true) <|
 (.need ((true && true) && (Nat.beq x.n_6.rings.n x.n_6.rings.n)) <|
 (.ite (!(ieq y2.snd 0))
 (.ret ((Bx.mk true (TFa.mk (TPg.mk (Sl.mk true 0 (fun _i3 => (TRg.mk 0 0 0))) (Sl.mk true 0 (fun _i3 => (Sl.mk true 0 (fun _i4 => (TIn.mk 0 0 0 0 0 0)))))) (Sl.mk true 0 (fun _i3 => (TTh.mk 0 0 0 0 0 (fun _i4 => (0 : Int)) (Sl.mk true 0 (fun _i4 => (0 : Int)))))) (Sl.mk true 0 (fun _i3 => (Bx.mk true (TRr.mk (TRc.mk 0 (Sl.mk true 0 (fun _i4 => (0 : Int)))) (Bx.mk true (TSs.mk (Sl.mk true 0 (fun _i4 => (TSo.mk 0 0 0))) 0)) 0 false)))) 0 0 false)), 3))
 (.ite (ile 2305843009213693952 (x.q_57.get (Int.toNat x.q_59)).Tail)
 (.ret ((Bx.mk true (TFa.mk (TPg.mk (Sl.mk true 0 (fun _i3 => (TRg.mk 0 0 0))) (Sl.mk true 0 (fun _i3 => (Sl.mk true 0 (fun _i4 => (TIn.mk 0 0 0 0 0 0)))))) (Sl.mk true 0 (fun _i3 => (TTh.mk 0 0 0 0 0 (fun _i4 => (0 : Int)) (Sl.mk true 0 (fun _i4 => (0 : Int)))))) (Sl.mk true 0 (fun _i3 => (Bx.mk true (TRr.mk (TRc.mk 0 (Sl.mk true 0 (fun _i4 => (0 : Int)))) (Bx.mk true (TSs.mk (Sl.mk true 0 (fun _i4 => (TSo.mk 0 0 0))) 0)) 0 false)))) 0 0 false)), 3))
 (.jump S_f8_13 (D_f8_13 D_f8_8) (X_f8_13.mk x.p_2 x.s_3 x.q_57 x.q_58 x.q_59 (TFa.mk x.n_6.p x.n_6.threads (Sl.mk x.n_6.rings.nil x.n_6.rings.n (fun i3 => (Bx.mk (cond (Nat.beq i3 ((0 : Nat) + (Int.toNat x.q_59))) y2.fst.nil (x.n_6.rings.get i3).nil) (TRr.mk (TRc.mk (cond (Nat.beq i3 ((0 : Nat) + (Int.toNat x.q_59))) y2.fst.x.cursors.tail (x.n_6.rings.get i3).x.cursors.tail) (Sl.mk (cond (Nat.beq i3 ((0 : Nat) + (Int.toNat x.q_59))) y2.fst.x.cursors.heads.nil (x.n_6.rings.get i3).x.cursors.heads.nil) (cond (Nat.beq i3 ((0 : Nat) + (Int.toNat x.q_59))) y2.fst.x.cursors.heads.n (x.n_6.rings.get i3).x.cursors.heads.n) (fun i4 => (cond (Nat.beq i3 ((0 : Nat) + (Int.toNat x.q_59))) (y2.fst.x.cursors.heads.get i4) ((x.n_6.rings.get i3).x.cursors.heads.get i4))))) (Bx.mk (cond (Nat.beq i3 ((0 : Nat) + (Int.toNat x.q_59))) y2.fst.x.s.nil (x.n_6.rings.get i3).x.s.nil) (TSs.mk (Sl.mk (cond (Nat.beq i3 ((0 : Nat) + (Int.toNat x.q_59))) y2.fst.x.s.x.l.nil (x.n_6.rings.get i3).x.s.x.l.nil) (cond (Nat.beq i3 ((0 : Nat) + (Int.toNat x.q_59))) y2.fst.x.s.x.l.n (x.n_6.rings.get i3).x.s.x.l.n) (fun i4 => (TSo.mk (cond (Nat.beq i3 ((0 : Nat) + (Int.toNat x.q_59))) (y2.fst.x.s.x.l.get i4).Stamp ((x.n_6.rings.get i3).x.s.x.l.get i4).Stamp) (cond (Nat.beq i3 ((0 : Nat) + (Int.toNat x.q_59))) (y2.fst.x.s.x.l.get i4).Value ((x.n_6.rings.get i3).x.s.x.l.get i4).Value) (cond (Nat.beq i3 ((0 : Nat) + (Int.toNat x.q_59))) (y2.fst.x.s.x.l.get i4).Left ((x.n_6.rings.get i3).x.s.x.l.get i4).Left)))) (cond (Nat.beq i3 ((0 : Nat) + (Int.toNat x.q_59))) y2.fst.x.s.x.readers (x.n_6.rings.get i3).x.s.x.readers))) (cond (Nat.beq i3 ((0 : Nat) + (Int.toNat x.q_59))) y2.fst.x.most (x.n_6.rings.get i3).x.most) (cond (Nat.beq i3 ((0 : Nat) + (Int.toNat x.q_59))) y2.fst.x.closed (x.n_6.rings.get i3).x.closed))))) x.n_6.now x.n_6.reads x.n_6.ended)))))))))))
 (.jump S_f8_14 D_f8_14 (X_f8_14.mk x.p_2 x.s_3 x.n_6)))
theorem sd_f8_8 (D_f8_8 : Dyn X_f8_8 R_f8) (x : X_f8_8) : (tt_f8_8 D_f8_8 x).Sides :=
  (TT.sI (TT.sN (TT.sN (TT.sC fun _ => (TT.sN (TT.sN (TT.sN (TT.sI TT.sR (TT.sI TT.sR TT.sJ)))))))) TT.sJ)
noncomputable def D_f8_8 : Dyn X_f8_8 R_f8 := Dyn.loop tt_f8_8
theorem ok_f8_8 : LabOK J_f8 S_f8_8 D_f8_8 :=
  loop_ok fun D_f8_8 h_8 => lbk mxk (lbc h_8 rfl (lbc ok_f8_15 rfl (lbc ok_f8_14 rfl (lbc (ok_f8_13 D_f8_8 h_8) rfl lbn)))) 4000 (fun x => by kernel_rfl) (sd_f8_8 D_f8_8)
noncomputable def tt_f8_6 (x : X_f8_6) : TT Tryz.prog R_f8 :=
 (.jump S_f8_8 D_f8_8 (X_f8_8.mk x.p_2 x.s_3 x.s_3.Rings ((x.s_3.Rings.n : Nat) : Int) 0 (TFa.mk x.n_6.p x.n_6.threads x.n_6.rings x.s_3.Now x.s_3.Reads x.s_3.Ended)))
theorem sd_f8_6 (x : X_f8_6) : (tt_f8_6 x).Sides :=
  TT.sJ
noncomputable def D_f8_6 : Dyn X_f8_6 R_f8 := .of tt_f8_6
theorem ok_f8_6 : LabOK J_f8 S_f8_6 D_f8_6 :=
  lbk mxk (lbc ok_f8_15 rfl (lbc ok_f8_14 rfl (lbc ok_f8_8 rfl lbn))) 4000 (fun x => by kernel_rfl) sd_f8_6
noncomputable def tt_f8 (x : X_f8) : TT Tryz.prog R_f8 :=
 (.call con_f19 x.fst fun (y1 : R_f19) =>
 (.ite (!(ieq y1.snd 0))
 (.ret ((Bx.mk true (TFa.mk (TPg.mk (Sl.mk true 0 (fun _i2 => (TRg.mk 0 0 0))) (Sl.mk true 0 (fun _i2 => (Sl.mk true 0 (fun _i3 => (TIn.mk 0 0 0 0 0 0)))))) (Sl.mk true 0 (fun _i2 => (TTh.mk 0 0 0 0 0 (fun _i3 => (0 : Int)) (Sl.mk true 0 (fun _i3 => (0 : Int)))))) (Sl.mk true 0 (fun _i2 => (Bx.mk true (TRr.mk (TRc.mk 0 (Sl.mk true 0 (fun _i3 => (0 : Int)))) (Bx.mk true (TSs.mk (Sl.mk true 0 (fun _i3 => (TSo.mk 0 0 0))) 0)) 0 false)))) 0 0 false)), y1.snd))
 (.ite (!(ieq ((x.snd.Threads.n : Nat) : Int) ((x.fst.Threads.n : Nat) : Int)))
 (.ret ((Bx.mk true (TFa.mk (TPg.mk (Sl.mk true 0 (fun _i2 => (TRg.mk 0 0 0))) (Sl.mk true 0 (fun _i2 => (Sl.mk true 0 (fun _i3 => (TIn.mk 0 0 0 0 0 0)))))) (Sl.mk true 0 (fun _i2 => (TTh.mk 0 0 0 0 0 (fun _i3 => (0 : Int)) (Sl.mk true 0 (fun _i3 => (0 : Int)))))) (Sl.mk true 0 (fun _i2 => (Bx.mk true (TRr.mk (TRc.mk 0 (Sl.mk true 0 (fun _i3 => (0 : Int)))) (Bx.mk true (TSs.mk (Sl.mk true 0 (fun _i3 => (TSo.mk 0 0 0))) 0)) 0 false)))) 0 0 false)), 3))
 (.ite (!(ieq ((x.snd.Rings.n : Nat) : Int) ((x.fst.Rings.n : Nat) : Int)))
 (.ret ((Bx.mk true (TFa.mk (TPg.mk (Sl.mk true 0 (fun _i2 => (TRg.mk 0 0 0))) (Sl.mk true 0 (fun _i2 => (Sl.mk true 0 (fun _i3 => (TIn.mk 0 0 0 0 0 0)))))) (Sl.mk true 0 (fun _i2 => (TTh.mk 0 0 0 0 0 (fun _i3 => (0 : Int)) (Sl.mk true 0 (fun _i3 => (0 : Int)))))) (Sl.mk true 0 (fun _i2 => (Bx.mk true (TRr.mk (TRc.mk 0 (Sl.mk true 0 (fun _i3 => (0 : Int)))) (Bx.mk true (TSs.mk (Sl.mk true 0 (fun _i3 => (TSo.mk 0 0 0))) 0)) 0 false)))) 0 0 false)), 3))
 (.ite (ile 9223372036854775808 x.snd.Now)
 (.ret ((Bx.mk true (TFa.mk (TPg.mk (Sl.mk true 0 (fun _i2 => (TRg.mk 0 0 0))) (Sl.mk true 0 (fun _i2 => (Sl.mk true 0 (fun _i3 => (TIn.mk 0 0 0 0 0 0)))))) (Sl.mk true 0 (fun _i2 => (TTh.mk 0 0 0 0 0 (fun _i3 => (0 : Int)) (Sl.mk true 0 (fun _i3 => (0 : Int)))))) (Sl.mk true 0 (fun _i2 => (Bx.mk true (TRr.mk (TRc.mk 0 (Sl.mk true 0 (fun _i3 => (0 : Int)))) (Bx.mk true (TSs.mk (Sl.mk true 0 (fun _i3 => (TSo.mk 0 0 0))) 0)) 0 false)))) 0 0 false)), 3))
 (.need (!y1.fst.nil) <|
 (.jump S_f8_6 D_f8_6 (X_f8_6.mk x.fst x.snd y1.fst.x))))))))
theorem sd_f8 (x : X_f8) : (tt_f8 x).Sides :=
  (TT.sC fun _ => (TT.sI TT.sR (TT.sI TT.sR (TT.sI TT.sR (TT.sI TT.sR (TT.sN TT.sJ))))))
noncomputable def D_f8 : Dyn X_f8 R_f8 := .of tt_f8
noncomputable def con_f8 : Con Tryz.prog :=
  mkCon 37 J_f8 S_f8 D_f8 D_f8 (fun _ _ h => h) 2 0 [sh_TPg, sh_TSt] (by kernel_rfl) (by kernel_rfl) (by kernel_rfl) (lbk mxk (lbc ok_f8_15 rfl (lbc ok_f8_14 rfl (lbc ok_f8_8 rfl (lbc ok_f8_6 rfl lbn)))) 4000 (fun x => by kernel_rfl) sd_f8) rfl rfl (fun _ => rfl) (by kernel_rfl) rfl (fun _ => rfl) (fun x y _ => by kernel_rfl)
abbrev X_f1z : Type := TEv × TFa
abbrev R_f1z : Type := Int × TFa
noncomputable def J_f1z : Job Tryz.prog :=
  job Tryz.prog Tryz.f23 27 [(3, 3)] [] [] [] [.any] [sh_TFa] [con_f15, con_fg, con_f16, con_f12, con_f2q] R_f1z [] fun y => [(V.int .i64) y.1, e_TFa y.2]
noncomputable def S_f1z : LabS :=
  lab0 Tryz.f23 2 1 X_f1z (fun x => [(V.ptr (.par 0) []), e_TEv x.1, e_TFa x.2]) fun l => (d_TEv (at_ l 1), d_TFa (at_ l 2))
noncomputable def tt_f1z (x : X_f1z) : TT Tryz.prog R_f1z :=
 (.call con_f12 (x.fst, x.snd) fun (y1 : R_f12) =>
 (.ite (!(ieq y1 0))
 (.ret (y1, x.snd))
 (.call con_f2q x.fst fun (y2 : R_f2q) =>
 (.ite y2
 (.call con_f15 (x.fst.Thread, x.snd) fun (y3 : R_f15) =>
 (.call con_f16 (x.fst, (y3, x.snd)) fun (y4 : R_f16) =>
 (.ite (!y4)
 (.ret (8, x.snd))
 (.call con_fg (x.fst, x.snd) fun (y5 : R_fg) =>
 (.ret (0, y5))))))
 (.call con_fg (x.fst, x.snd) fun (y3 : R_fg) =>
 (.ret (0, y3)))))))
theorem sd_f1z (x : X_f1z) : (tt_f1z x).Sides :=
  (TT.sC fun _ => (TT.sI TT.sR (TT.sC fun _ => (TT.sI (TT.sC fun _ => (TT.sC fun _ => (TT.sI TT.sR (TT.sC fun _ => TT.sR)))) (TT.sC fun _ => TT.sR)))))
noncomputable def D_f1z : Dyn X_f1z R_f1z := .of tt_f1z
noncomputable def con_f1z : Con Tryz.prog :=
  mkCon 23 J_f1z S_f1z D_f1z D_f1z (fun _ _ h => h) 2 1 [.any, .any] (by kernel_rfl) (by kernel_rfl) (by kernel_rfl) (lbk mxk lbn 4000 (fun x => by kernel_rfl) sd_f1z) rfl rfl (fun _ => rfl) (by kernel_rfl) rfl (fun _ => rfl) (fun x y _ => by kernel_rfl)
abbrev X_f1c : Type := Int × TFa
abbrev R_f1c : Type := Bool
abbrev RR_f1c : Type := Bool × TFa
abbrev p_f1c (y : RR_f1c) : TFa := y.2
abbrev w_f1c (x : X_f1c) : TFa := x.2
noncomputable def J_f1c : Job Tryz.prog :=
  job Tryz.prog Tryz.f27 19 [] [] [] [.back (.loc 12 0)] [.any] [sh_TFa] [con_f14] RR_f1c [] fun y => [V.bool y.1, e_TFa y.2]
noncomputable def S_f1c : LabS :=
  lab0 Tryz.f27 2 1 X_f1c (fun x => [(V.ptr (.par 0) []), (V.int .i64) x.1, e_TFa x.2]) fun l => (dI (at_ l 1), d_TFa (at_ l 2))
noncomputable def tt_f1c (x : X_f1c) : TT Tryz.prog RR_f1c :=
 (.call con_f14 (x.fst, x.snd) fun (y1 : R_f14) =>
 (.ite y1
 (.need (inb x.fst x.snd.threads.n) <|
 (.need ((Nat.beq x.snd.threads.n x.snd.threads.n) && true) <|
 (.need ((true && true) && (Nat.beq x.snd.threads.n x.snd.threads.n)) <|
 (.ret ((ieq (x.snd.threads.get ((0 : Nat) + (Int.toNat x.fst))).Status 0), x.snd)))))
 (.ret (false, x.snd))))
theorem sd_f1c (x : X_f1c) : (tt_f1c x).Sides :=
  (TT.sC fun _ => (TT.sI (TT.sN (TT.sN (TT.sN TT.sR))) TT.sR))
theorem roT_f1c (x : X_f1c) : TT.Ro p_f1c (w_f1c x) (tt_f1c x) :=
  (TT.rC fun _ => (TT.rI (TT.rN (TT.rN (TT.rN (TT.rR rfl)))) (TT.rR rfl)))
noncomputable def D_f1c : Dyn X_f1c R_f1c := .ro (.of tt_f1c) (fun y => (y.1)) (fun y x => (y, x.2)) fun x y h => congrArg (fun o => (y.1, o)) (roT_f1c x y h)
noncomputable def con_f1c : Con Tryz.prog :=
  mkConP 27 J_f1c S_f1c (.of tt_f1c) D_f1c (fun y x => (y, x.2)) (fun _ _ h => h) (fun y => V.bool y) 2 1 [.any, .any] (by kernel_rfl) (by kernel_rfl) (by kernel_rfl) (lbk mxk lbn 4000 (fun x => by kernel_rfl) sd_f1c) rfl rfl (fun _ => rfl) (by kernel_rfl) rfl (fun _ _ => rfl) (fun _ => rfl) (fun x => ⟨(nu_e_TFa : ∀ y, (e_TFa y).NoU) (x.2), trivial⟩)
abbrev X_f26 : Type := TTh
abbrev R_f26 : Type := Bool
noncomputable def J_f26 : Job Tryz.prog :=
  job Tryz.prog Tryz.f98 6 [(1, 3)] [] [] [] [.any] [] [] R_f26 [] fun y => [V.bool y]
noncomputable def S_f26 : LabS :=
  lab0 Tryz.f98 1 0 X_f26 (fun x => [e_TTh x]) fun l => (d_TTh (at_ l 0))
noncomputable def tt_f26 (x : X_f26) : TT Tryz.prog R_f26 :=
 (.ret (ieq x.Status 0))
theorem sd_f26 (x : X_f26) : (tt_f26 x).Sides :=
  TT.sR
noncomputable def D_f26 : Dyn X_f26 R_f26 := .of tt_f26
noncomputable def con_f26 : Con Tryz.prog :=
  mkCon 98 J_f26 S_f26 D_f26 D_f26 (fun _ _ h => h) 1 0 [sh_TTh] (by kernel_rfl) (by kernel_rfl) (by kernel_rfl) (lbk mxk lbn 4000 (fun x => by kernel_rfl) sd_f26) rfl rfl (fun _ => rfl) (by kernel_rfl) rfl (fun _ => rfl) (fun x y _ => by kernel_rfl)
abbrev X_f0 : Type := (Ar TTh)
abbrev R_f0 : Type := Int
abbrev RR_f0 : Type := Int × (Ar TTh)
abbrev p_f0 (y : RR_f0) : (Ar TTh) := y.2
abbrev w_f0 (x : X_f0) : (Ar TTh) := x
noncomputable def J_f0 : Job Tryz.prog :=
  job Tryz.prog Tryz.f146 19 [] [] [] [] [.any] [.any] [con_f26] RR_f0 [] fun y => [(V.int .i64) y.1, (eAr 14 e_TTh) y.2]
noncomputable def S_f0 : LabS :=
  lab0 Tryz.f146 2 1 X_f0 (fun x => [(V.own (.par 0) [] 14 x.n 0 x.n), (V.fn 98 V.unit), (eAr 14 e_TTh) x]) fun l => ((dAr d_TTh) (at_ l 2))
structure X_f0_2 where
  q_7 : Int
  q_8 : Int
  o_0 : (Ar TTh)
noncomputable def S_f0_2 : LabS :=
  labAt Tryz.f146 2 [(0, .any), (1, .any), (7, .any), (8, .any)] [.any] [] X_f0_2 (fun x => [(V.own (.par 0) [] 14 x.o_0.n 0 x.o_0.n), (V.fn 98 V.unit), (V.int .i64) x.q_7, (V.int .i64) x.q_8, (eAr 14 e_TTh) x.o_0]) fun l => ⟨dI (at_ l 2), dI (at_ l 3), (dAr d_TTh) (at_ l 4)⟩
abbrev w_f0_2 (x : X_f0_2) : (Ar TTh) := (x.o_0)
noncomputable def tt_f0_2 (D_f0_2 : Dyn X_f0_2 RR_f0) (x : X_f0_2) : TT Tryz.prog RR_f0 :=
 (.ite (ilt x.q_8 x.q_7)
 (.need (inb x.q_8 x.o_0.n) <|
 (.need ((Nat.beq x.o_0.n x.o_0.n) && true) <|
 (.call con_f26 (x.o_0.get ((0 : Nat) + (Int.toNat x.q_8))) fun (y2 : R_f26) =>
 (.ite y2
 (.ret (x.q_8, x.o_0))
 (.jump S_f0_2 D_f0_2 (X_f0_2.mk x.q_7 (IntKind.i64.wrap (x.q_8 + 1)) x.o_0))))))
 (.ret ((-(1 : Int)), x.o_0)))
theorem sd_f0_2 (D_f0_2 : Dyn X_f0_2 RR_f0) (x : X_f0_2) : (tt_f0_2 D_f0_2 x).Sides :=
  (TT.sI (TT.sN (TT.sN (TT.sC fun _ => (TT.sI TT.sR TT.sJ)))) TT.sR)
theorem roT_f0_2 (D_f0_2 : Dyn X_f0_2 RR_f0) (r_slices_IndexFunc_api_ThreadState__fabric_Fabric_Over_1_o0_2 : ∀ x y, D_f0_2.rel x y → p_f0 y = w_f0_2 x) (x : X_f0_2) : TT.Ro p_f0 (w_f0_2 x) (tt_f0_2 D_f0_2 x) :=
  (TT.rI (TT.rN (TT.rN (TT.rC fun _ => (TT.rI (TT.rR rfl) (TT.rJ (r_slices_IndexFunc_api_ThreadState__fabric_Fabric_Over_1_o0_2 _)))))) (TT.rR rfl))
noncomputable def D_f0_2 : Dyn X_f0_2 RR_f0 := Dyn.loop tt_f0_2
theorem ok_f0_2 : LabOK J_f0 S_f0_2 D_f0_2 :=
  loop_ok fun D_f0_2 h_2 => lbk mxk (lbc h_2 rfl lbn) 4000 (fun x => by kernel_rfl) (sd_f0_2 D_f0_2)
theorem ro_f0_2 : ∀ x y, D_f0_2.rel x y → p_f0 y = w_f0_2 x :=
  loop_ro fun D_f0_2 r_slices_IndexFunc_api_ThreadState__fabric_Fabric_Over_1_o0_2 => roT_f0_2 D_f0_2 r_slices_IndexFunc_api_ThreadState__fabric_Fabric_Over_1_o0_2
noncomputable def tt_f0 (x : X_f0) : TT Tryz.prog RR_f0 :=
 (.jump S_f0_2 D_f0_2 (X_f0_2.mk ((x.n : Nat) : Int) 0 x))
theorem sd_f0 (x : X_f0) : (tt_f0 x).Sides :=
  TT.sJ
theorem roT_f0 (x : X_f0) : TT.Ro p_f0 (w_f0 x) (tt_f0 x) :=
  (TT.rJ (ro_f0_2 _))
noncomputable def D_f0 : Dyn X_f0 R_f0 := .ro (.of tt_f0) (fun y => (y.1)) (fun y x => (y, x)) fun x y h => congrArg (fun o => (y.1, o)) (roT_f0 x y h)
noncomputable def con_f0 : Con Tryz.prog :=
  mkConP 146 J_f0 S_f0 (.of tt_f0) D_f0 (fun y x => (y, x)) (fun _ _ h => h) (fun y => (V.int .i64) y) 2 1 [.any, .any] (by kernel_rfl) (by kernel_rfl) (by kernel_rfl) (lbk mxk (lbc ok_f0_2 rfl lbn) 4000 (fun x => by kernel_rfl) sd_f0) rfl rfl (fun _ => rfl) (by kernel_rfl) rfl (fun _ _ => rfl) (fun _ => rfl) (fun x => ⟨(fun _ _ => (nu_e_TTh) _ : ∀ y, ((eAr 14 e_TTh) y).NoU) (x), trivial⟩)
abbrev X_fb : Type := (Ar TTh)
abbrev R_fb : Type := Bool
abbrev RR_fb : Type := Bool × (Ar TTh)
abbrev p_fb (y : RR_fb) : (Ar TTh) := y.2
abbrev w_fb (x : X_fb) : (Ar TTh) := x
noncomputable def J_fb : Job Tryz.prog :=
  job Tryz.prog Tryz.f97 9 [(5, 1)] [] [] [] [.any] [.any] [con_f0] RR_fb [] fun y => [V.bool y.1, (eAr 14 e_TTh) y.2]
noncomputable def S_fb : LabS :=
  lab0 Tryz.f97 2 1 X_fb (fun x => [(V.own (.par 0) [] 14 x.n 0 x.n), (V.fn 98 V.unit), (eAr 14 e_TTh) x]) fun l => ((dAr d_TTh) (at_ l 2))
noncomputable def tt_fb (x : X_fb) : TT Tryz.prog RR_fb :=
 (.call con_f0 x fun (y1 : R_f0) =>
 (.ret ((ile 0 y1), x)))
theorem sd_fb (x : X_fb) : (tt_fb x).Sides :=
  (TT.sC fun _ => TT.sR)
theorem roT_fb (x : X_fb) : TT.Ro p_fb (w_fb x) (tt_fb x) :=
  (TT.rC fun _ => (TT.rR rfl))
noncomputable def D_fb : Dyn X_fb R_fb := .ro (.of tt_fb) (fun y => (y.1)) (fun y x => (y, x)) fun x y h => congrArg (fun o => (y.1, o)) (roT_fb x y h)
noncomputable def con_fb : Con Tryz.prog :=
  mkConP 97 J_fb S_fb (.of tt_fb) D_fb (fun y x => (y, x)) (fun _ _ h => h) (fun y => V.bool y) 2 1 [.any, .any] (by kernel_rfl) (by kernel_rfl) (by kernel_rfl) (lbk mxk lbn 4000 (fun x => by kernel_rfl) sd_fb) rfl rfl (fun _ => rfl) (by kernel_rfl) rfl (fun _ _ => rfl) (fun _ => rfl) (fun x => ⟨(fun _ _ => (nu_e_TTh) _ : ∀ y, ((eAr 14 e_TTh) y).NoU) (x), trivial⟩)
abbrev X_f1d : Type := TFa
abbrev R_f1d : Type := Bool
abbrev RR_f1d : Type := Bool × TFa
abbrev p_f1d (y : RR_f1d) : TFa := y.2
abbrev w_f1d (x : X_f1d) : TFa := x
noncomputable def J_f1d : Job Tryz.prog :=
  job Tryz.prog Tryz.f56 13 [] [] [] [.back (.loc 9 0)] [.any] [sh_TFa] [con_fb] RR_f1d [] fun y => [V.bool y.1, e_TFa y.2]
noncomputable def S_f1d : LabS :=
  lab0 Tryz.f56 1 1 X_f1d (fun x => [(V.ptr (.par 0) []), e_TFa x]) fun l => (d_TFa (at_ l 1))
noncomputable def tt_f1d (x : X_f1d) : TT Tryz.prog RR_f1d :=
 (.call con_fb (Ar.mk x.threads.n x.threads.get) fun (y1 : R_fb) =>
 (.need ((true && true) && (Nat.beq x.threads.n x.threads.n)) <|
 (.ret ((!y1), x))))
theorem sd_f1d (x : X_f1d) : (tt_f1d x).Sides :=
  (TT.sC fun _ => (TT.sN TT.sR))
theorem roT_f1d (x : X_f1d) : TT.Ro p_f1d (w_f1d x) (tt_f1d x) :=
  (TT.rC fun _ => (TT.rN (TT.rR rfl)))
noncomputable def D_f1d : Dyn X_f1d R_f1d := .ro (.of tt_f1d) (fun y => (y.1)) (fun y x => (y, x)) fun x y h => congrArg (fun o => (y.1, o)) (roT_f1d x y h)
noncomputable def con_f1d : Con Tryz.prog :=
  mkConP 56 J_f1d S_f1d (.of tt_f1d) D_f1d (fun y x => (y, x)) (fun _ _ h => h) (fun y => V.bool y) 1 1 [.any] (by kernel_rfl) (by kernel_rfl) (by kernel_rfl) (lbk mxk lbn 4000 (fun x => by kernel_rfl) sd_f1d) rfl rfl (fun _ => rfl) (by kernel_rfl) rfl (fun _ _ => rfl) (fun _ => rfl) (fun x => ⟨(nu_e_TFa : ∀ y, (e_TFa y).NoU) (x), trivial⟩)
abbrev X_f1k : Type := TFa
abbrev R_f1k : Type := Int
abbrev RR_f1k : Type := Int × TFa
abbrev p_f1k (y : RR_f1k) : TFa := y.2
abbrev w_f1k (x : X_f1k) : TFa := x
noncomputable def J_f1k : Job Tryz.prog :=
  job Tryz.prog Tryz.f40 9 [] [] [] [] [.any] [sh_TFa] [] RR_f1k [] fun y => [(V.int .u64) y.1, e_TFa y.2]
noncomputable def S_f1k : LabS :=
  lab0 Tryz.f40 1 1 X_f1k (fun x => [(V.ptr (.par 0) []), e_TFa x]) fun l => (d_TFa (at_ l 1))
noncomputable def tt_f1k (x : X_f1k) : TT Tryz.prog RR_f1k :=
 (.ret (x.now, x))
theorem sd_f1k (x : X_f1k) : (tt_f1k x).Sides :=
  TT.sR
theorem roT_f1k (x : X_f1k) : TT.Ro p_f1k (w_f1k x) (tt_f1k x) :=
  (TT.rR rfl)
noncomputable def D_f1k : Dyn X_f1k R_f1k := .ro (.of tt_f1k) (fun y => (y.1)) (fun y x => (y, x)) fun x y h => congrArg (fun o => (y.1, o)) (roT_f1k x y h)
noncomputable def con_f1k : Con Tryz.prog :=
  mkConP 40 J_f1k S_f1k (.of tt_f1k) D_f1k (fun y x => (y, x)) (fun _ _ h => h) (fun y => (V.int .u64) y) 1 1 [.any] (by kernel_rfl) (by kernel_rfl) (by kernel_rfl) (lbk mxk lbn 4000 (fun x => by kernel_rfl) sd_f1k) rfl rfl (fun _ => rfl) (by kernel_rfl) rfl (fun _ _ => rfl) (fun _ => rfl) (fun x => ⟨(nu_e_TFa : ∀ y, (e_TFa y).NoU) (x), trivial⟩)
abbrev X_f1e : Type := Int × TFa
abbrev R_f1e : Type := (Sl Int)
abbrev RR_f1e : Type := (Sl Int) × TFa
abbrev p_f1e (y : RR_f1e) : TFa := y.2
abbrev w_f1e (x : X_f1e) : TFa := x.2
noncomputable def J_f1e : Job Tryz.prog :=
  job Tryz.prog Tryz.f26 18 [] [] [] [.back (.loc 12 0), .shut 4] [hsl_u64] [sh_TFa] [con_f14, con_f1o] RR_f1e [] fun y => [esl_u64 y.1, e_TFa y.2]
noncomputable def S_f1e : LabS :=
  lab0 Tryz.f26 2 1 X_f1e (fun x => [(V.ptr (.par 0) []), (V.int .i64) x.1, e_TFa x.2]) fun l => (dI (at_ l 1), d_TFa (at_ l 2))
noncomputable def tt_f1e (x : X_f1e) : TT Tryz.prog RR_f1e :=
 (.call con_f14 (x.fst, x.snd) fun (y1 : R_f14) =>
 (.ite (!y1)
 (.ret ((Sl.mk true 0 (fun _i2 => (0 : Int))), x.snd))
 (.need (inb x.fst x.snd.threads.n) <|
 (.need ((Nat.beq x.snd.threads.n x.snd.threads.n) && true) <|
 (.call con_f1o (x.snd.threads.get ((0 : Nat) + (Int.toNat x.fst))).Seen fun (y2 : R_f1o) =>
 (.need ((true && true) && (Nat.beq x.snd.threads.n x.snd.threads.n)) <|
 (.ret (y2, x.snd))))))))
theorem sd_f1e (x : X_f1e) : (tt_f1e x).Sides :=
  (TT.sC fun _ => (TT.sI TT.sR (TT.sN (TT.sN (TT.sC fun _ => (TT.sN TT.sR))))))
theorem roT_f1e (x : X_f1e) : TT.Ro p_f1e (w_f1e x) (tt_f1e x) :=
  (TT.rC fun _ => (TT.rI (TT.rR rfl) (TT.rN (TT.rN (TT.rC fun _ => (TT.rN (TT.rR rfl)))))))
noncomputable def D_f1e : Dyn X_f1e R_f1e := .ro (.of tt_f1e) (fun y => (y.1)) (fun y x => (y, x.2)) fun x y h => congrArg (fun o => (y.1, o)) (roT_f1e x y h)
noncomputable def con_f1e : Con Tryz.prog :=
  mkConP 26 J_f1e S_f1e (.of tt_f1e) D_f1e (fun y x => (y, x.2)) (fun _ _ h => h) (fun y => esl_u64 y) 2 1 [.any, .any] (by kernel_rfl) (by kernel_rfl) (by kernel_rfl) (lbk mxk lbn 4000 (fun x => by kernel_rfl) sd_f1e) rfl rfl (fun _ => rfl) (by kernel_rfl) rfl (fun _ _ => rfl) (fun _ => rfl) (fun x => ⟨(nu_e_TFa : ∀ y, (e_TFa y).NoU) (x.2), trivial⟩)
abbrev X_f3i : Type := Unit
abbrev R_f3i : Type := Bool
noncomputable def J_f3i : Job Tryz.prog :=
  job Tryz.prog Tryz.f18 190 [(22, 1), (27, 1), (36, 1), (41, 1), (66, 1), (155, 1), (185, 1)] [(3, [.open_ 1])] [] [] [.any] [] [con_ff, con_f1f, con_f2f, con_f1z, con_f1k, con_f1d, con_f1c, con_f1e, con_f3, con_f8, con_f19, con_f3q] R_f3i [] fun y => [V.bool y]
noncomputable def S_f3i : LabS :=
  lab0 Tryz.f18 0 0 X_f3i (fun _x => []) fun _l => ()
noncomputable def tt_f3i (_x : X_f3i) : TT Tryz.prog R_f3i :=
 (.call con_f3q PUnit.unit fun (y1 : R_f3q) =>
 (.call con_f19 y1 fun (y2 : R_f19) =>
 (.call con_f19 (TPg.mk (Sl.mk true 0 (fun _i3 => (TRg.mk 0 0 0))) (Sl.mk true 0 (fun _i3 => (Sl.mk true 0 (fun _i4 => (TIn.mk 0 0 0 0 0 0)))))) fun (y3 : R_f19) =>
 (.need (!y2.fst.nil) <|
 (.call con_f1f (0, y2.fst.x) fun (y4 : R_f1f) =>
 (.call con_f1f (1, y2.fst.x) fun (y5 : R_f1f) =>
 (.call con_ff ((TEv.mk 0 1 0 0 0), y2.fst.x) fun (y6 : R_ff) =>
 (.call con_ff ((TEv.mk 0 5 0 0 0), y2.fst.x) fun (y7 : R_ff) =>
 (.call con_f2f ((TEv.mk 0 1 0 0 0), y2.fst.x) fun (y8 : R_f2f) =>
 (.call con_f2f ((TEv.mk 0 1 0 0 0), y8.snd) fun (y9 : R_f2f) =>
 (.call con_f2f ((TEv.mk 0 2 0 0 0), y9.snd) fun (y10 : R_f2f) =>
 (.call con_f2f ((TEv.mk 0 5 0 0 0), y10.snd) fun (y11 : R_f2f) =>
 (.call con_f3 y11.snd fun (y12 : R_f3) =>
 (.call con_f3q PUnit.unit fun (y13 : R_f3q) =>
 (.call con_f8 (y13, y12) fun (y14 : R_f8) =>
 (.call con_f1z ((TEv.mk 0 1 0 1 0), y11.snd) fun (y15 : R_f1z) =>
 (.call con_f1z ((TEv.mk 0 12 0 0 0), y15.snd) fun (y16 : R_f1z) =>
 (.ite (ieq y2.snd 0)
 (.ite (ieq y3.snd 1)
 (.ite (ieq y4.fst.Kind 1)
 (.ite (ieq y4.fst.Value 5)
 (.ite (ieq y4.snd 0)
 (.ite (ieq y5.snd 5)
 (.ite y6
 (.ite (!y7)
 (.ite (ieq y8.fst 0)
 (.ite (ieq y9.fst 11)
 (.ite (ieq y10.fst 0)
 (.ite (ieq y11.fst 0)
 (.ite (ieq ((y12.Threads.n : Nat) : Int) 1)
 (.need (inb 0 y12.Threads.n) <|
 (.ite (ieq ((y12.Threads.get (Int.toNat 0)).Regs (Int.toNat 2)) 1)
 (.ite (ieq ((y12.Rings.n : Nat) : Int) 1)
 (.need (inb 0 y12.Rings.n) <|
 (.ite (ieq (y12.Rings.get (Int.toNat 0)).Tail 1)
 (.ite (!y14.fst.nil)
 (.ite (ieq y14.snd 0)
 (.ite (ieq y15.fst 8)
 (.ite (ieq y16.fst 11)
 (.call con_f1c (0, y16.snd) fun (y17 : R_f1c) =>
 (.ite y17
 (.call con_f1d y16.snd fun (y18 : R_f1d) =>
 (.ite (!y18)
 (.call con_f1k y16.snd fun (y19 : R_f1k) =>
 (.ite (ieq y19 0)
 (.call con_f1e (0, y16.snd) fun (y20 : R_f1e) =>
 (.ret (ieq ((y20.n : Nat) : Int) 0)))
 (.ret false)))
 (.ret false)))
 (.ret false)))
 (.ret false))
 (.ret false))
 (.ret false))
 (.ret false))
 (.ret false)))
 (.ret false))
 (.ret false)))
 (.ret false))
 (.ret false))
 (.ret false))
 (.ret false))
 (.ret false))
 (.ret false))
 (.ret false))
 (.ret false))
 (.ret false))
 (.ret false))
 (.ret false))
 (.ret false))
 (.ret false)))))))))))))))))))
theorem sd_f3i (x : X_f3i) : (tt_f3i x).Sides :=
  (TT.sC fun _ => (TT.sC fun _ => (TT.sC fun _ => (TT.sN (TT.sC fun _ => (TT.sC fun _ => (TT.sC fun _ => (TT.sC fun _ => (TT.sC fun _ => (TT.sC fun _ => (TT.sC fun _ => (TT.sC fun _ => (TT.sC fun _ => (TT.sC fun _ => (TT.sC fun _ => (TT.sC fun _ => (TT.sC fun _ => (TT.sI (TT.sI (TT.sI (TT.sI (TT.sI (TT.sI (TT.sI (TT.sI (TT.sI (TT.sI (TT.sI (TT.sI (TT.sI (TT.sN (TT.sI (TT.sI (TT.sN (TT.sI (TT.sI (TT.sI (TT.sI (TT.sI (TT.sC fun _ => (TT.sI (TT.sC fun _ => (TT.sI (TT.sC fun _ => (TT.sI (TT.sC fun _ => TT.sR) TT.sR)) TT.sR)) TT.sR)) TT.sR) TT.sR) TT.sR) TT.sR) TT.sR)) TT.sR) TT.sR)) TT.sR) TT.sR) TT.sR) TT.sR) TT.sR) TT.sR) TT.sR) TT.sR) TT.sR) TT.sR) TT.sR) TT.sR) TT.sR))))))))))))))))))
noncomputable def D_f3i : Dyn X_f3i R_f3i := .of tt_f3i
noncomputable def con_f3i : Con Tryz.prog :=
  mkCon 18 J_f3i S_f3i D_f3i D_f3i (fun _ _ h => h) 0 0 [] (by kernel_rfl) (by kernel_rfl) (by kernel_rfl) (lbk mxk lbn 4000 (fun x => by kernel_rfl) sd_f3i) rfl rfl (fun _ => rfl) (by kernel_rfl) rfl (fun _ => rfl) (fun x y _ => by kernel_rfl)
abbrev X_f1q : Type := TPg × Int
abbrev R_f1q : Type := Bool
noncomputable def J_f1q : Job Tryz.prog :=
  job Tryz.prog Tryz.f11 43 [(2, 3)] [] [] [] [.any] [] [] R_f1q [] fun y => [V.bool y]
noncomputable def S_f1q : LabS :=
  lab0 Tryz.f11 2 0 X_f1q (fun x => [e_TPg x.1, (V.int .i64) x.2]) fun l => (d_TPg (at_ l 0), dI (at_ l 1))
structure X_f1q_3 where
  most_1 : Int
  p_2 : TPg
noncomputable def S_f1q_3 : LabS :=
  labAt Tryz.f11 3 [(1, .any), (2, .any)] [] [] X_f1q_3 (fun x => [(V.int .i64) x.most_1, (eVp e_TPg) x.p_2]) fun l => ⟨dI (at_ l 0), (dVp d_TPg) (at_ l 1)⟩
structure X_f1q_5 where
  most_1 : Int
  p_2 : TPg
  n_5 : Int
  i_6 : Int
noncomputable def S_f1q_5 : LabS :=
  labAt Tryz.f11 5 [(1, .any), (2, .any), (5, .any), (6, .any)] [] [] X_f1q_5 (fun x => [(V.int .i64) x.most_1, (eVp e_TPg) x.p_2, (V.int .i64) x.n_5, (V.int .i64) x.i_6]) fun l => ⟨dI (at_ l 0), (dVp d_TPg) (at_ l 1), dI (at_ l 2), dI (at_ l 3)⟩
noncomputable def tt_f1q_5 (D_f1q_5 : Dyn X_f1q_5 R_f1q) (x : X_f1q_5) : TT Tryz.prog R_f1q :=
 (.ite (ilt x.i_6 ((x.p_2.Threads.n : Nat) : Int))
 (.need (inb x.i_6 x.p_2.Threads.n) <|
 (.ite (ilt x.most_1 (((x.p_2.Threads.get (Int.toNat x.i_6)).n : Nat) : Int))
 (.ret false)
 (.need (inb x.i_6 x.p_2.Threads.n) <|
 (.jump S_f1q_5 D_f1q_5 (X_f1q_5.mk x.most_1 x.p_2 (IntKind.i64.wrap (x.n_5 + (((x.p_2.Threads.get (Int.toNat x.i_6)).n : Nat) : Int))) (IntKind.i64.wrap (x.i_6 + 1)))))))
 (.ret (ile x.n_5 x.most_1)))
theorem sd_f1q_5 (D_f1q_5 : Dyn X_f1q_5 R_f1q) (x : X_f1q_5) : (tt_f1q_5 D_f1q_5 x).Sides :=
  (TT.sI (TT.sN (TT.sI TT.sR (TT.sN TT.sJ))) TT.sR)
noncomputable def D_f1q_5 : Dyn X_f1q_5 R_f1q := Dyn.loop tt_f1q_5
theorem ok_f1q_5 : LabOK J_f1q S_f1q_5 D_f1q_5 :=
  loop_ok fun D_f1q_5 h_5 => lbk mxk (lbc h_5 rfl lbn) 4000 (fun x => by kernel_rfl) (sd_f1q_5 D_f1q_5)
noncomputable def tt_f1q_3 (x : X_f1q_3) : TT Tryz.prog R_f1q :=
 (.jump S_f1q_5 D_f1q_5 (X_f1q_5.mk x.most_1 x.p_2 0 0))
theorem sd_f1q_3 (x : X_f1q_3) : (tt_f1q_3 x).Sides :=
  TT.sJ
noncomputable def D_f1q_3 : Dyn X_f1q_3 R_f1q := .of tt_f1q_3
theorem ok_f1q_3 : LabOK J_f1q S_f1q_3 D_f1q_3 :=
  lbk mxk (lbc ok_f1q_5 rfl lbn) 4000 (fun x => by kernel_rfl) sd_f1q_3
noncomputable def tt_f1q (x : X_f1q) : TT Tryz.prog R_f1q :=
 (.ite (ilt 10 ((x.fst.Rings.n : Nat) : Int))
 (.ret false)
 (.ite (ilt 10 ((x.fst.Threads.n : Nat) : Int))
 (.ret false)
 (.jump S_f1q_3 D_f1q_3 (X_f1q_3.mk x.snd x.fst))))
theorem sd_f1q (x : X_f1q) : (tt_f1q x).Sides :=
  (TT.sI TT.sR (TT.sI TT.sR TT.sJ))
noncomputable def D_f1q : Dyn X_f1q R_f1q := .of tt_f1q
noncomputable def con_f1q : Con Tryz.prog :=
  mkCon 11 J_f1q S_f1q D_f1q D_f1q (fun _ _ h => h) 2 0 [sh_TPg, .any] (by kernel_rfl) (by kernel_rfl) (by kernel_rfl) (lbk mxk (lbc ok_f1q_5 rfl (lbc ok_f1q_3 rfl lbn)) 4000 (fun x => by kernel_rfl) sd_f1q) rfl rfl (fun _ => rfl) (by kernel_rfl) rfl (fun _ => rfl) (fun x y _ => by kernel_rfl)
abbrev X_f40 : Type := TRg
abbrev R_f40 : Type := Bool
noncomputable def J_f40 : Job Tryz.prog :=
  job Tryz.prog Tryz.f139 36 [(1, 3)] [] [] [] [.any] [] [] R_f40 [] fun y => [V.bool y]
noncomputable def S_f40 : LabS :=
  lab0 Tryz.f139 1 0 X_f40 (fun x => [e_TRg x]) fun l => (d_TRg (at_ l 0))
noncomputable def tt_f40 (x : X_f40) : TT Tryz.prog R_f40 :=
 (.ite (ile 1 x.Cap)
 (.ite (ile x.Cap 64)
 (.ite (ieq x.Kind 1)
 (.ite (ieq x.Readers 1)
 (.ret true)
 (.ite (ieq x.Kind 2)
 (.ite (ile 1 x.Readers)
 (.ret (ile x.Readers 8))
 (.ret false))
 (.ret false)))
 (.ite (ieq x.Kind 2)
 (.ite (ile 1 x.Readers)
 (.ret (ile x.Readers 8))
 (.ret false))
 (.ret false)))
 (.ret false))
 (.ret false))
theorem sd_f40 (x : X_f40) : (tt_f40 x).Sides :=
  (TT.sI (TT.sI (TT.sI (TT.sI TT.sR (TT.sI (TT.sI TT.sR TT.sR) TT.sR)) (TT.sI (TT.sI TT.sR TT.sR) TT.sR)) TT.sR) TT.sR)
noncomputable def D_f40 : Dyn X_f40 R_f40 := .of tt_f40
noncomputable def con_f40 : Con Tryz.prog :=
  mkCon 139 J_f40 S_f40 D_f40 D_f40 (fun _ _ h => h) 1 0 [.any] (by kernel_rfl) (by kernel_rfl) (by kernel_rfl) (lbk mxk lbn 4000 (fun x => by kernel_rfl) sd_f40) rfl rfl (fun _ => rfl) (by kernel_rfl) rfl (fun _ => rfl) (fun x y _ => by kernel_rfl)
abbrev X_f41 : Type := Int
abbrev R_f41 : Type := ByteArray
noncomputable def J_f41 : Job Tryz.prog :=
  job Tryz.prog Tryz.f178 53 [] [] [] [] [.any] [] [] R_f41 [] fun y => [V.str y]
noncomputable def S_f41 : LabS :=
  lab0 Tryz.f178 1 0 X_f41 (fun x => [(V.int .i64) x]) fun l => (dI (at_ l 0))
noncomputable def tt_f41 (x : X_f41) : TT Tryz.prog R_f41 :=
 (.ite (ieq x 1)
 (.ret (ByteArray.mk #[114, 48, 48, 48, 110]))
 (.ite (ieq x 2)
 (.ret (ByteArray.mk #[114, 114, 48, 48, 48]))
 (.ite (ieq x 23)
 (.ret (ByteArray.mk #[114, 114, 48, 48, 48]))
 (.ite (ile 3 x)
 (.ite (ile x 14)
 (.ret (ByteArray.mk #[114, 114, 114, 48, 48]))
 (.ite (ieq x 15)
 (.ret (ByteArray.mk #[48, 48, 48, 48, 112]))
 (.ite (ieq x 16)
 (.ret (ByteArray.mk #[114, 48, 48, 48, 112]))
 (.ite (ieq x 17)
 (.ret (ByteArray.mk #[114, 48, 48, 48, 112]))
 (.ite (ieq x 18)
 (.ret (ByteArray.mk #[114, 114, 103, 109, 48]))
 (.ite (ieq x 19)
 (.ret (ByteArray.mk #[114, 114, 103, 109, 100]))
 (.ite (ieq x 20)
 (.ret (ByteArray.mk #[48, 48, 103, 48, 48]))
 (.ite (ieq x 21)
 (.ret (ByteArray.mk #[114, 48, 48, 48, 48]))
 (.ite (ieq x 22)
 (.ret (ByteArray.mk #[114, 48, 48, 48, 48]))
 (.ite (ieq x 24)
 (.ret (ByteArray.mk #[114, 48, 48, 48, 48]))
 (.ite (ieq x 25)
 (.ret (ByteArray.mk #[48, 48, 48, 48, 48]))
 (.ret (ByteArray.mk #[])))))))))))))
 (.ite (ieq x 15)
 (.ret (ByteArray.mk #[48, 48, 48, 48, 112]))
 (.ite (ieq x 16)
 (.ret (ByteArray.mk #[114, 48, 48, 48, 112]))
 (.ite (ieq x 17)
 (.ret (ByteArray.mk #[114, 48, 48, 48, 112]))
 (.ite (ieq x 18)
 (.ret (ByteArray.mk #[114, 114, 103, 109, 48]))
 (.ite (ieq x 19)
 (.ret (ByteArray.mk #[114, 114, 103, 109, 100]))
 (.ite (ieq x 20)
 (.ret (ByteArray.mk #[48, 48, 103, 48, 48]))
 (.ite (ieq x 21)
 (.ret (ByteArray.mk #[114, 48, 48, 48, 48]))
 (.ite (ieq x 22)
 (.ret (ByteArray.mk #[114, 48, 48, 48, 48]))
 (.ite (ieq x 24)
 (.ret (ByteArray.mk #[114, 48, 48, 48, 48]))
 (.ite (ieq x 25)
 (.ret (ByteArray.mk #[48, 48, 48, 48, 48]))
 (.ret (ByteArray.mk #[]))))))))))))))))
theorem sd_f41 (x : X_f41) : (tt_f41 x).Sides :=
  (TT.sI TT.sR (TT.sI TT.sR (TT.sI TT.sR (TT.sI (TT.sI TT.sR (TT.sI TT.sR (TT.sI TT.sR (TT.sI TT.sR (TT.sI TT.sR (TT.sI TT.sR (TT.sI TT.sR (TT.sI TT.sR (TT.sI TT.sR (TT.sI TT.sR (TT.sI TT.sR TT.sR))))))))))) (TT.sI TT.sR (TT.sI TT.sR (TT.sI TT.sR (TT.sI TT.sR (TT.sI TT.sR (TT.sI TT.sR (TT.sI TT.sR (TT.sI TT.sR (TT.sI TT.sR (TT.sI TT.sR TT.sR))))))))))))))
noncomputable def D_f41 : Dyn X_f41 R_f41 := .of tt_f41
noncomputable def con_f41 : Con Tryz.prog :=
  mkCon 178 J_f41 S_f41 D_f41 D_f41 (fun _ _ h => h) 1 0 [.any] (by kernel_rfl) (by kernel_rfl) (by kernel_rfl) (lbk mxk lbn 4000 (fun x => by kernel_rfl) sd_f41) rfl rfl (fun _ => rfl) (by kernel_rfl) rfl (fun _ => rfl) (fun x y _ => by kernel_rfl)
abbrev X_f3x : Type := Int
abbrev R_f3x : Type := Int
noncomputable def J_f3x : Job Tryz.prog :=
  job Tryz.prog Tryz.f179 14 [] [] [] [] [.any] [] [] R_f3x [] fun y => [(V.int .u64) y]
noncomputable def S_f3x : LabS :=
  lab0 Tryz.f179 1 0 X_f3x (fun x => [(V.int .u8) x]) fun l => (dI (at_ l 0))
noncomputable def tt_f3x (x : X_f3x) : TT Tryz.prog R_f3x :=
 (.ite (ieq x 114)
 (.ret 7)
 (.ite (ieq x 103)
 (.ret 7)
 (.ite (ieq x 100)
 (.ret 7)
 (.ite (ieq x 109)
 (.ret 2)
 (.ite (ieq x 112)
 (.ret 256)
 (.ite (ieq x 110)
 (.ret 18446744073709551615)
 (.ret 0)))))))
theorem sd_f3x (x : X_f3x) : (tt_f3x x).Sides :=
  (TT.sI TT.sR (TT.sI TT.sR (TT.sI TT.sR (TT.sI TT.sR (TT.sI TT.sR (TT.sI TT.sR TT.sR))))))
noncomputable def D_f3x : Dyn X_f3x R_f3x := .of tt_f3x
noncomputable def con_f3x : Con Tryz.prog :=
  mkCon 179 J_f3x S_f3x D_f3x D_f3x (fun _ _ h => h) 1 0 [.any] (by kernel_rfl) (by kernel_rfl) (by kernel_rfl) (lbk mxk lbn 4000 (fun x => by kernel_rfl) sd_f3x) rfl rfl (fun _ => rfl) (by kernel_rfl) rfl (fun _ => rfl) (fun x y _ => by kernel_rfl)
abbrev Dsl_i64 : Type := (Sl Int)
def esl_i64 : Dsl_i64 → V := (eSl none 1 (V.int .i64))
def dsl_i64 : V → Dsl_i64 := (dSl dI)
def hsl_i64 : Sh := (.sl none 1 (V.int .i64 0))
abbrev X_fm : Type := TIn
abbrev R_fm : Type := Bool
noncomputable def J_fm : Job Tryz.prog :=
  job Tryz.prog Tryz.f140 49 [(1, 3)] [] [] [] [.any] [] [con_f41, con_f3x] R_fm [] fun y => [V.bool y]
noncomputable def S_fm : LabS :=
  lab0 Tryz.f140 1 0 X_fm (fun x => [e_TIn x]) fun l => (d_TIn (at_ l 0))
structure X_fm_4 where
  i_1 : TIn
  f_3 : ByteArray
noncomputable def S_fm_4 : LabS :=
  labAt Tryz.f140 4 [(1, .any), (3, .any)] [] [] X_fm_4 (fun x => [(eVp e_TIn) x.i_1, V.str x.f_3]) fun l => ⟨(dVp d_TIn) (at_ l 0), dS (at_ l 1)⟩
structure X_fm_6 where
  f_3 : ByteArray
  l_4 : (Sl Int)
  k_5 : Int
noncomputable def S_fm_6 : LabS :=
  labAt Tryz.f140 6 [(3, .any), (4, hsl_i64), (5, .any)] [] [] X_fm_6 (fun x => [V.str x.f_3, esl_i64 x.l_4, (V.int .i64) x.k_5]) fun l => ⟨dS (at_ l 0), dsl_i64 (at_ l 1), dI (at_ l 2)⟩
structure X_fm_7 where
  f_3 : ByteArray
  l_4 : (Sl Int)
  k_5 : Int
noncomputable def S_fm_7 : LabS :=
  labAt Tryz.f140 7 [(3, .any), (4, hsl_i64), (5, .any)] [] [] X_fm_7 (fun x => [V.str x.f_3, esl_i64 x.l_4, (V.int .i64) x.k_5]) fun l => ⟨dS (at_ l 0), dsl_i64 (at_ l 1), dI (at_ l 2)⟩
noncomputable def tt_fm_7 (D_fm_6 : Dyn X_fm_6 R_fm) (x : X_fm_7) : TT Tryz.prog R_fm :=
 (.jump S_fm_6 D_fm_6 (X_fm_6.mk x.f_3 x.l_4 (IntKind.i64.wrap (x.k_5 + 1))))
theorem sd_fm_7 (D_fm_6 : Dyn X_fm_6 R_fm) (x : X_fm_7) : (tt_fm_7 D_fm_6 x).Sides :=
  TT.sJ
noncomputable def D_fm_7 (D_fm_6 : Dyn X_fm_6 R_fm) : Dyn X_fm_7 R_fm := .of (tt_fm_7 D_fm_6)
theorem ok_fm_7 (D_fm_6 : Dyn X_fm_6 R_fm) (h_6 : LabOK J_fm S_fm_6 D_fm_6) : LabOK J_fm S_fm_7 (D_fm_7 D_fm_6) :=
  lbk mxk (lbc h_6 rfl lbn) 4000 (fun x => by kernel_rfl) (sd_fm_7 D_fm_6)
noncomputable def tt_fm_6 (D_fm_6 : Dyn X_fm_6 R_fm) (x : X_fm_6) : TT Tryz.prog R_fm :=
 (.ite (ilt x.k_5 4)
 (.need (inb x.k_5 x.l_4.n) <|
 (.ite (ilt (x.l_4.get (Int.toNat x.k_5)) 0)
 (.ret false)
 (.need (inb x.k_5 x.l_4.n) <|
 (.need (inb x.k_5 (ByteArray.size x.f_3)) <|
 (.call con_f3x (bt x.f_3 (Int.toNat x.k_5)) fun (y2 : R_f3x) =>
 (.ite (ilt y2 (IntKind.u64.wrap (x.l_4.get (Int.toNat x.k_5))))
 (.ret false)
 (.jump S_fm_7 (D_fm_7 D_fm_6) (X_fm_7.mk x.f_3 x.l_4 x.k_5))))))))
 (.ret true))
theorem sd_fm_6 (D_fm_6 : Dyn X_fm_6 R_fm) (x : X_fm_6) : (tt_fm_6 D_fm_6 x).Sides :=
  (TT.sI (TT.sN (TT.sI TT.sR (TT.sN (TT.sN (TT.sC fun _ => (TT.sI TT.sR TT.sJ)))))) TT.sR)
noncomputable def D_fm_6 : Dyn X_fm_6 R_fm := Dyn.loop tt_fm_6
theorem ok_fm_6 : LabOK J_fm S_fm_6 D_fm_6 :=
  loop_ok fun D_fm_6 h_6 => lbk mxk (lbc h_6 rfl (lbc (ok_fm_7 D_fm_6 h_6) rfl lbn)) 4000 (fun x => by kernel_rfl) (sd_fm_6 D_fm_6)
noncomputable def tt_fm_4 (x : X_fm_4) : TT Tryz.prog R_fm :=
 (.jump S_fm_6 D_fm_6 (X_fm_6.mk x.f_3 (Sl.mk false 4 (fun i1 => (cond (Nat.beq i1 0) x.i_1.A (cond (Nat.beq i1 1) x.i_1.B (cond (Nat.beq i1 2) x.i_1.C x.i_1.D))))) 0))
theorem sd_fm_4 (x : X_fm_4) : (tt_fm_4 x).Sides :=
  TT.sJ
noncomputable def D_fm_4 : Dyn X_fm_4 R_fm := .of tt_fm_4
theorem ok_fm_4 : LabOK J_fm S_fm_4 D_fm_4 :=
  lbk mxk (lbc ok_fm_6 rfl lbn) 4000 (fun x => by kernel_rfl) sd_fm_4
noncomputable def tt_fm (x : X_fm) : TT Tryz.prog R_fm :=
 (.call con_f41 x.Op fun (y1 : R_f41) =>
 (.ite (seq y1 (ByteArray.mk #[]))
 (.ret false)
 (.need (inb 4 (ByteArray.size y1)) <|
 (.call con_f3x (bt y1 (Int.toNat 4)) fun (y2 : R_f3x) =>
 (.ite (ilt y2 x.K)
 (.ret false)
 (.jump S_fm_4 D_fm_4 (X_fm_4.mk x y1)))))))
theorem sd_fm (x : X_fm) : (tt_fm x).Sides :=
  (TT.sC fun _ => (TT.sI TT.sR (TT.sN (TT.sC fun _ => (TT.sI TT.sR TT.sJ)))))
noncomputable def D_fm : Dyn X_fm R_fm := .of tt_fm
noncomputable def con_fm : Con Tryz.prog :=
  mkCon 140 J_fm S_fm D_fm D_fm (fun _ _ h => h) 1 0 [.any] (by kernel_rfl) (by kernel_rfl) (by kernel_rfl) (lbk mxk (lbc ok_fm_6 rfl (lbc ok_fm_4 rfl lbn)) 4000 (fun x => by kernel_rfl) sd_fm) rfl rfl (fun _ => rfl) (by kernel_rfl) rfl (fun _ => rfl) (fun x y _ => by kernel_rfl)
abbrev X_f27 : Type := TPg × TIn × Int
abbrev R_f27 : Type := Int
noncomputable def J_f27 : Job Tryz.prog :=
  job Tryz.prog Tryz.f141 56 [(3, 3), (4, 3)] [] [] [] [.any] [] [] R_f27 [] fun y => [(V.int .i64) y]
noncomputable def S_f27 : LabS :=
  lab0 Tryz.f141 3 0 X_f27 (fun x => [e_TPg x.1, e_TIn x.2.1, (V.int .i64) x.2.2]) fun l => (d_TPg (at_ l 0), d_TIn (at_ l 1), dI (at_ l 2))
structure X_f27_3 where
  p_3 : TPg
  i_4 : TIn
noncomputable def S_f27_3 : LabS :=
  labAt Tryz.f141 3 [(3, .any), (4, .any)] [] [] X_f27_3 (fun x => [(eVp e_TPg) x.p_3, (eVp e_TIn) x.i_4]) fun l => ⟨(dVp d_TPg) (at_ l 0), (dVp d_TIn) (at_ l 1)⟩
noncomputable def tt_f27_3 (x : X_f27_3) : TT Tryz.prog R_f27 :=
 (.ite (ile 18 x.i_4.Op)
 (.ite (ile x.i_4.Op 20)
 (.ite (ile ((x.p_3.Rings.n : Nat) : Int) x.i_4.C)
 (.ret 7)
 (.ite (ieq x.i_4.Op 19)
 (.need (inb x.i_4.C x.p_3.Rings.n) <|
 (.ite (ile (IntKind.u64.wrap (x.p_3.Rings.get (Int.toNat x.i_4.C)).Readers) x.i_4.K)
 (.ret 7)
 (.ret 0)))
 (.ret 0)))
 (.ite (ieq x.i_4.Op 19)
 (.need (inb x.i_4.C x.p_3.Rings.n) <|
 (.ite (ile (IntKind.u64.wrap (x.p_3.Rings.get (Int.toNat x.i_4.C)).Readers) x.i_4.K)
 (.ret 7)
 (.ret 0)))
 (.ret 0)))
 (.ite (ieq x.i_4.Op 19)
 (.need (inb x.i_4.C x.p_3.Rings.n) <|
 (.ite (ile (IntKind.u64.wrap (x.p_3.Rings.get (Int.toNat x.i_4.C)).Readers) x.i_4.K)
 (.ret 7)
 (.ret 0)))
 (.ret 0)))
theorem sd_f27_3 (x : X_f27_3) : (tt_f27_3 x).Sides :=
  (TT.sI (TT.sI (TT.sI TT.sR (TT.sI (TT.sN (TT.sI TT.sR TT.sR)) TT.sR)) (TT.sI (TT.sN (TT.sI TT.sR TT.sR)) TT.sR)) (TT.sI (TT.sN (TT.sI TT.sR TT.sR)) TT.sR))
noncomputable def D_f27_3 : Dyn X_f27_3 R_f27 := .of tt_f27_3
theorem ok_f27_3 : LabOK J_f27 S_f27_3 D_f27_3 :=
  lbk mxk lbn 4000 (fun x => by kernel_rfl) sd_f27_3
noncomputable def tt_f27 (x : X_f27) : TT Tryz.prog R_f27 :=
 (.ite (ile 15 x.snd.fst.Op)
 (.ite (ile x.snd.fst.Op 17)
 (.ite (ilt (IntKind.u64.wrap x.snd.snd) x.snd.fst.K)
 (.ret 5)
 (.jump S_f27_3 D_f27_3 (X_f27_3.mk x.fst x.snd.fst)))
 (.jump S_f27_3 D_f27_3 (X_f27_3.mk x.fst x.snd.fst)))
 (.jump S_f27_3 D_f27_3 (X_f27_3.mk x.fst x.snd.fst)))
theorem sd_f27 (x : X_f27) : (tt_f27 x).Sides :=
  (TT.sI (TT.sI (TT.sI TT.sR TT.sJ) TT.sJ) TT.sJ)
noncomputable def D_f27 : Dyn X_f27 R_f27 := .of tt_f27
noncomputable def con_f27 : Con Tryz.prog :=
  mkCon 141 J_f27 S_f27 D_f27 D_f27 (fun _ _ h => h) 3 0 [sh_TPg, .any, .any] (by kernel_rfl) (by kernel_rfl) (by kernel_rfl) (lbk mxk (lbc ok_f27_3 rfl lbn) 4000 (fun x => by kernel_rfl) sd_f27) rfl rfl (fun _ => rfl) (by kernel_rfl) rfl (fun _ => rfl) (fun x y _ => by kernel_rfl)
abbrev X_f4 : Type := TPg
abbrev R_f4 : Type := Int × Int × Int
noncomputable def J_f4 : Job Tryz.prog :=
  job Tryz.prog Tryz.f89 81 [(1, 3)] [] [] [] [.any, .any, .any] [] [con_fm, con_f27, con_f40] R_f4 [] fun y => [V.tup (V.cons ((V.int .i64) y.1) (V.cons ((V.int .i64) y.2.1) (V.cons ((V.int .i64) y.2.2) (V.unit))))]
noncomputable def S_f4 : LabS :=
  lab0 Tryz.f89 1 0 X_f4 (fun x => [e_TPg x]) fun l => (d_TPg (at_ l 0))
structure X_f4_3 where
  p_1 : TPg
noncomputable def S_f4_3 : LabS :=
  labAt Tryz.f89 3 [(1, .any)] [] [] X_f4_3 (fun x => [(eVp e_TPg) x.p_1]) fun l => ⟨(dVp d_TPg) (at_ l 0)⟩
structure X_f4_4 where
  p_1 : TPg
  i_5 : Int
noncomputable def S_f4_4 : LabS :=
  labAt Tryz.f89 4 [(1, .any), (5, .any)] [] [] X_f4_4 (fun x => [(eVp e_TPg) x.p_1, (V.int .i64) x.i_5]) fun l => ⟨(dVp d_TPg) (at_ l 0), dI (at_ l 1)⟩
structure X_f4_8 where
  p_1 : TPg
noncomputable def S_f4_8 : LabS :=
  labAt Tryz.f89 8 [(1, .any)] [] [] X_f4_8 (fun x => [(eVp e_TPg) x.p_1]) fun l => ⟨(dVp d_TPg) (at_ l 0)⟩
structure X_f4_9 where
  p_1 : TPg
  t_6 : Int
noncomputable def S_f4_9 : LabS :=
  labAt Tryz.f89 9 [(1, .any), (6, .any)] [] [] X_f4_9 (fun x => [(eVp e_TPg) x.p_1, (V.int .i64) x.t_6]) fun l => ⟨(dVp d_TPg) (at_ l 0), dI (at_ l 1)⟩
structure X_f4_10 where
  p_1 : TPg
  t_6 : Int
noncomputable def S_f4_10 : LabS :=
  labAt Tryz.f89 10 [(1, .any), (6, .any)] [] [] X_f4_10 (fun x => [(eVp e_TPg) x.p_1, (V.int .i64) x.t_6]) fun l => ⟨(dVp d_TPg) (at_ l 0), dI (at_ l 1)⟩
structure X_f4_15 where
  p_1 : TPg
  t_6 : Int
  l_7 : (Sl TIn)
  k_8 : Int
noncomputable def S_f4_15 : LabS :=
  labAt Tryz.f89 15 [(1, .any), (6, .any), (7, hsl_TIn), (8, .any)] [] [] X_f4_15 (fun x => [(eVp e_TPg) x.p_1, (V.int .i64) x.t_6, esl_TIn x.l_7, (V.int .i64) x.k_8]) fun l => ⟨(dVp d_TPg) (at_ l 0), dI (at_ l 1), dsl_TIn (at_ l 2), dI (at_ l 3)⟩
structure X_f4_16 where
  p_1 : TPg
  t_6 : Int
  l_7 : (Sl TIn)
  k_8 : Int
noncomputable def S_f4_16 : LabS :=
  labAt Tryz.f89 16 [(1, .any), (6, .any), (7, hsl_TIn), (8, .any)] [] [] X_f4_16 (fun x => [(eVp e_TPg) x.p_1, (V.int .i64) x.t_6, esl_TIn x.l_7, (V.int .i64) x.k_8]) fun l => ⟨(dVp d_TPg) (at_ l 0), dI (at_ l 1), dsl_TIn (at_ l 2), dI (at_ l 3)⟩
structure X_f4_20 where
  p_1 : TPg
  t_6 : Int
  l_7 : (Sl TIn)
  k_8 : Int
  e_9 : Int
noncomputable def S_f4_20 : LabS :=
  labAt Tryz.f89 20 [(1, .any), (6, .any), (7, hsl_TIn), (8, .any), (9, .any)] [] [] X_f4_20 (fun x => [(eVp e_TPg) x.p_1, (V.int .i64) x.t_6, esl_TIn x.l_7, (V.int .i64) x.k_8, (V.int .i64) x.e_9]) fun l => ⟨(dVp d_TPg) (at_ l 0), dI (at_ l 1), dsl_TIn (at_ l 2), dI (at_ l 3), dI (at_ l 4)⟩
noncomputable def tt_f4_10 (D_f4_9 : Dyn X_f4_9 R_f4) (x : X_f4_10) : TT Tryz.prog R_f4 :=
 (.jump S_f4_9 D_f4_9 (X_f4_9.mk x.p_1 (IntKind.i64.wrap (x.t_6 + 1))))
theorem sd_f4_10 (D_f4_9 : Dyn X_f4_9 R_f4) (x : X_f4_10) : (tt_f4_10 D_f4_9 x).Sides :=
  TT.sJ
noncomputable def D_f4_10 (D_f4_9 : Dyn X_f4_9 R_f4) : Dyn X_f4_10 R_f4 := .of (tt_f4_10 D_f4_9)
theorem ok_f4_10 (D_f4_9 : Dyn X_f4_9 R_f4) (h_9 : LabOK J_f4 S_f4_9 D_f4_9) : LabOK J_f4 S_f4_10 (D_f4_10 D_f4_9) :=
  lbk mxk (lbc h_9 rfl lbn) 4000 (fun x => by kernel_rfl) (sd_f4_10 D_f4_9)
noncomputable def tt_f4_16 (_D_f4_9 : Dyn X_f4_9 R_f4) (D_f4_15 : Dyn X_f4_15 R_f4) (x : X_f4_16) : TT Tryz.prog R_f4 :=
 (.jump S_f4_15 D_f4_15 (X_f4_15.mk x.p_1 x.t_6 x.l_7 (IntKind.i64.wrap (x.k_8 + 1))))
theorem sd_f4_16 (D_f4_9 : Dyn X_f4_9 R_f4) (D_f4_15 : Dyn X_f4_15 R_f4) (x : X_f4_16) : (tt_f4_16 D_f4_9 D_f4_15 x).Sides :=
  TT.sJ
noncomputable def D_f4_16 (D_f4_9 : Dyn X_f4_9 R_f4) (D_f4_15 : Dyn X_f4_15 R_f4) : Dyn X_f4_16 R_f4 := .of (tt_f4_16 D_f4_9 D_f4_15)
theorem ok_f4_16 (D_f4_9 : Dyn X_f4_9 R_f4) (D_f4_15 : Dyn X_f4_15 R_f4) (h_9 : LabOK J_f4 S_f4_9 D_f4_9) (h_15 : LabOK J_f4 S_f4_15 D_f4_15) : LabOK J_f4 S_f4_16 (D_f4_16 D_f4_9 D_f4_15) :=
  lbk mxk (lbc h_9 rfl (lbc h_15 rfl (lbc (ok_f4_10 D_f4_9 h_9) rfl lbn))) 4000 (fun x => by kernel_rfl) (sd_f4_16 D_f4_9 D_f4_15)
noncomputable def tt_f4_20 (D_f4_9 : Dyn X_f4_9 R_f4) (D_f4_15 : Dyn X_f4_15 R_f4) (x : X_f4_20) : TT Tryz.prog R_f4 :=
 (.ite (!(ieq x.e_9 0))
 (.ret (x.t_6, (x.k_8, x.e_9)))
 (.jump S_f4_16 (D_f4_16 D_f4_9 D_f4_15) (X_f4_16.mk x.p_1 x.t_6 x.l_7 x.k_8)))
theorem sd_f4_20 (D_f4_9 : Dyn X_f4_9 R_f4) (D_f4_15 : Dyn X_f4_15 R_f4) (x : X_f4_20) : (tt_f4_20 D_f4_9 D_f4_15 x).Sides :=
  (TT.sI TT.sR TT.sJ)
noncomputable def D_f4_20 (D_f4_9 : Dyn X_f4_9 R_f4) (D_f4_15 : Dyn X_f4_15 R_f4) : Dyn X_f4_20 R_f4 := .of (tt_f4_20 D_f4_9 D_f4_15)
theorem ok_f4_20 (D_f4_9 : Dyn X_f4_9 R_f4) (D_f4_15 : Dyn X_f4_15 R_f4) (h_9 : LabOK J_f4 S_f4_9 D_f4_9) (h_15 : LabOK J_f4 S_f4_15 D_f4_15) : LabOK J_f4 S_f4_20 (D_f4_20 D_f4_9 D_f4_15) :=
  lbk mxk (lbc h_9 rfl (lbc h_15 rfl (lbc (ok_f4_10 D_f4_9 h_9) rfl (lbc (ok_f4_16 D_f4_9 D_f4_15 h_9 h_15) rfl lbn)))) 4000 (fun x => by kernel_rfl) (sd_f4_20 D_f4_9 D_f4_15)
noncomputable def tt_f4_15 (D_f4_9 : Dyn X_f4_9 R_f4) (D_f4_15 : Dyn X_f4_15 R_f4) (x : X_f4_15) : TT Tryz.prog R_f4 :=
 (.ite (ilt x.k_8 ((x.l_7.n : Nat) : Int))
 (.need (inb x.k_8 x.l_7.n) <|
 (.call con_fm (x.l_7.get (Int.toNat x.k_8)) fun (y3 : R_fm) =>
 (.ite y3
 (.need (inb x.k_8 x.l_7.n) <|
 (.call con_f27 (x.p_1, ((x.l_7.get (Int.toNat x.k_8)), ((x.l_7.n : Nat) : Int))) fun (y4 : R_f27) =>
 (.jump S_f4_20 (D_f4_20 D_f4_9 D_f4_15) (X_f4_20.mk x.p_1 x.t_6 x.l_7 x.k_8 y4))))
 (.jump S_f4_20 (D_f4_20 D_f4_9 D_f4_15) (X_f4_20.mk x.p_1 x.t_6 x.l_7 x.k_8 6)))))
 (.jump S_f4_10 (D_f4_10 D_f4_9) (X_f4_10.mk x.p_1 x.t_6)))
theorem sd_f4_15 (D_f4_9 : Dyn X_f4_9 R_f4) (D_f4_15 : Dyn X_f4_15 R_f4) (x : X_f4_15) : (tt_f4_15 D_f4_9 D_f4_15 x).Sides :=
  (TT.sI (TT.sN (TT.sC fun _ => (TT.sI (TT.sN (TT.sC fun _ => TT.sJ)) TT.sJ))) TT.sJ)
noncomputable def D_f4_15 (D_f4_9 : Dyn X_f4_9 R_f4) : Dyn X_f4_15 R_f4 := Dyn.loop (tt_f4_15 D_f4_9)
theorem ok_f4_15 (D_f4_9 : Dyn X_f4_9 R_f4) (h_9 : LabOK J_f4 S_f4_9 D_f4_9) : LabOK J_f4 S_f4_15 (D_f4_15 D_f4_9) :=
  loop_ok fun D_f4_15 h_15 => lbk mxk (lbc h_9 rfl (lbc h_15 rfl (lbc (ok_f4_10 D_f4_9 h_9) rfl (lbc (ok_f4_16 D_f4_9 D_f4_15 h_9 h_15) rfl (lbc (ok_f4_20 D_f4_9 D_f4_15 h_9 h_15) rfl lbn))))) 4000 (fun x => by kernel_rfl) (sd_f4_15 D_f4_9 D_f4_15)
noncomputable def tt_f4_9 (D_f4_9 : Dyn X_f4_9 R_f4) (x : X_f4_9) : TT Tryz.prog R_f4 :=
 (.ite (ilt x.t_6 ((x.p_1.Threads.n : Nat) : Int))
 (.need (inb x.t_6 x.p_1.Threads.n) <|
 (.ite (ilt 256 (((x.p_1.Threads.get (Int.toNat x.t_6)).n : Nat) : Int))
 (.ret (x.t_6, (256, 4)))
 (.jump S_f4_15 (D_f4_15 D_f4_9) (X_f4_15.mk x.p_1 x.t_6 (x.p_1.Threads.get (Int.toNat x.t_6)) 0))))
 (.ret (0, (0, 0))))
theorem sd_f4_9 (D_f4_9 : Dyn X_f4_9 R_f4) (x : X_f4_9) : (tt_f4_9 D_f4_9 x).Sides :=
  (TT.sI (TT.sN (TT.sI TT.sR TT.sJ)) TT.sR)
noncomputable def D_f4_9 : Dyn X_f4_9 R_f4 := Dyn.loop tt_f4_9
theorem ok_f4_9 : LabOK J_f4 S_f4_9 D_f4_9 :=
  loop_ok fun D_f4_9 h_9 => lbk mxk (lbc h_9 rfl (lbc (ok_f4_10 D_f4_9 h_9) rfl (lbc (ok_f4_15 D_f4_9 h_9) rfl lbn))) 4000 (fun x => by kernel_rfl) (sd_f4_9 D_f4_9)
noncomputable def tt_f4_8 (x : X_f4_8) : TT Tryz.prog R_f4 :=
 (.jump S_f4_9 D_f4_9 (X_f4_9.mk x.p_1 0))
theorem sd_f4_8 (x : X_f4_8) : (tt_f4_8 x).Sides :=
  TT.sJ
noncomputable def D_f4_8 : Dyn X_f4_8 R_f4 := .of tt_f4_8
theorem ok_f4_8 : LabOK J_f4 S_f4_8 D_f4_8 :=
  lbk mxk (lbc ok_f4_9 rfl lbn) 4000 (fun x => by kernel_rfl) sd_f4_8
noncomputable def tt_f4_4 (D_f4_4 : Dyn X_f4_4 R_f4) (x : X_f4_4) : TT Tryz.prog R_f4 :=
 (.ite (ilt x.i_5 ((x.p_1.Rings.n : Nat) : Int))
 (.need (inb x.i_5 x.p_1.Rings.n) <|
 (.call con_f40 (x.p_1.Rings.get (Int.toNat x.i_5)) fun (y2 : R_f40) =>
 (.ite (!y2)
 (.ret ((-(1 : Int)), (x.i_5, 7)))
 (.jump S_f4_4 D_f4_4 (X_f4_4.mk x.p_1 (IntKind.i64.wrap (x.i_5 + 1)))))))
 (.jump S_f4_8 D_f4_8 (X_f4_8.mk x.p_1)))
theorem sd_f4_4 (D_f4_4 : Dyn X_f4_4 R_f4) (x : X_f4_4) : (tt_f4_4 D_f4_4 x).Sides :=
  (TT.sI (TT.sN (TT.sC fun _ => (TT.sI TT.sR TT.sJ))) TT.sJ)
noncomputable def D_f4_4 : Dyn X_f4_4 R_f4 := Dyn.loop tt_f4_4
theorem ok_f4_4 : LabOK J_f4 S_f4_4 D_f4_4 :=
  loop_ok fun D_f4_4 h_4 => lbk mxk (lbc h_4 rfl (lbc ok_f4_9 rfl (lbc ok_f4_8 rfl lbn))) 4000 (fun x => by kernel_rfl) (sd_f4_4 D_f4_4)
noncomputable def tt_f4_3 (x : X_f4_3) : TT Tryz.prog R_f4 :=
 (.jump S_f4_4 D_f4_4 (X_f4_4.mk x.p_1 0))
theorem sd_f4_3 (x : X_f4_3) : (tt_f4_3 x).Sides :=
  TT.sJ
noncomputable def D_f4_3 : Dyn X_f4_3 R_f4 := .of tt_f4_3
theorem ok_f4_3 : LabOK J_f4 S_f4_3 D_f4_3 :=
  lbk mxk (lbc ok_f4_9 rfl (lbc ok_f4_8 rfl (lbc ok_f4_4 rfl lbn))) 4000 (fun x => by kernel_rfl) sd_f4_3
noncomputable def tt_f4 (x : X_f4) : TT Tryz.prog R_f4 :=
 (.ite (ieq ((x.Threads.n : Nat) : Int) 0)
 (.ret (0, (0, 1)))
 (.ite (ilt 8 ((x.Threads.n : Nat) : Int))
 (.ret (0, (0, 1)))
 (.ite (ilt 8 ((x.Rings.n : Nat) : Int))
 (.ret (0, (0, 1)))
 (.jump S_f4_3 D_f4_3 (X_f4_3.mk x)))))
theorem sd_f4 (x : X_f4) : (tt_f4 x).Sides :=
  (TT.sI TT.sR (TT.sI TT.sR (TT.sI TT.sR TT.sJ)))
noncomputable def D_f4 : Dyn X_f4 R_f4 := .of tt_f4
noncomputable def con_f4 : Con Tryz.prog :=
  mkCon 89 J_f4 S_f4 D_f4 D_f4 (fun _ _ h => h) 1 0 [sh_TPg] (by kernel_rfl) (by kernel_rfl) (by kernel_rfl) (lbk mxk (lbc ok_f4_9 rfl (lbc ok_f4_8 rfl (lbc ok_f4_4 rfl (lbc ok_f4_3 rfl lbn)))) 4000 (fun x => by kernel_rfl) sd_f4) rfl rfl (fun _ => rfl) (by kernel_rfl) rfl (fun _ => rfl) (fun x y _ => by kernel_rfl)
abbrev X_f3u : Type := TPg
abbrev R_f3u : Type := Bool
noncomputable def J_f3u : Job Tryz.prog :=
  job Tryz.prog Tryz.f41 14 [(1, 3), (6, 1)] [] [] [] [.any] [] [con_f4] R_f3u [] fun y => [V.bool y]
noncomputable def S_f3u : LabS :=
  lab0 Tryz.f41 1 0 X_f3u (fun x => [e_TPg x]) fun l => (d_TPg (at_ l 0))
noncomputable def tt_f3u (x : X_f3u) : TT Tryz.prog R_f3u :=
 (.call con_f4 x fun (y1 : R_f4) =>
 (.ret (ieq y1.snd.snd 0)))
theorem sd_f3u (x : X_f3u) : (tt_f3u x).Sides :=
  (TT.sC fun _ => TT.sR)
noncomputable def D_f3u : Dyn X_f3u R_f3u := .of tt_f3u
noncomputable def con_f3u : Con Tryz.prog :=
  mkCon 41 J_f3u S_f3u D_f3u D_f3u (fun _ _ h => h) 1 0 [sh_TPg] (by kernel_rfl) (by kernel_rfl) (by kernel_rfl) (lbk mxk lbn 4000 (fun x => by kernel_rfl) sd_f3u) rfl rfl (fun _ => rfl) (by kernel_rfl) rfl (fun _ => rfl) (fun x y _ => by kernel_rfl)
abbrev X_f3v : Type := TPg
abbrev R_f3v : Type := Bool
noncomputable def J_f3v : Job Tryz.prog :=
  job Tryz.prog Tryz.f13 5 [(1, 3)] [] [] [] [.any] [] [con_f3u] R_f3v [] fun y => [V.bool y]
noncomputable def S_f3v : LabS :=
  lab0 Tryz.f13 1 0 X_f3v (fun x => [e_TPg x]) fun l => (d_TPg (at_ l 0))
noncomputable def tt_f3v (x : X_f3v) : TT Tryz.prog R_f3v :=
 (.call con_f3u x fun (y1 : R_f3u) =>
 (.ret y1))
theorem sd_f3v (x : X_f3v) : (tt_f3v x).Sides :=
  (TT.sC fun _ => TT.sR)
noncomputable def D_f3v : Dyn X_f3v R_f3v := .of tt_f3v
noncomputable def con_f3v : Con Tryz.prog :=
  mkCon 13 J_f3v S_f3v D_f3v D_f3v (fun _ _ h => h) 1 0 [sh_TPg] (by kernel_rfl) (by kernel_rfl) (by kernel_rfl) (lbk mxk lbn 4000 (fun x => by kernel_rfl) sd_f3v) rfl rfl (fun _ => rfl) (by kernel_rfl) rfl (fun _ => rfl) (fun x y _ => by kernel_rfl)
abbrev X_f47 : Type := TPg
abbrev R_f47 : Type := Bool
noncomputable def J_f47 : Job Tryz.prog :=
  job Tryz.prog Tryz.f19 9 [(1, 3)] [] [] [] [.any] [] [con_f1q, con_f3v] R_f47 [] fun y => [V.bool y]
noncomputable def S_f47 : LabS :=
  lab0 Tryz.f19 1 0 X_f47 (fun x => [e_TPg x]) fun l => (d_TPg (at_ l 0))
noncomputable def tt_f47 (x : X_f47) : TT Tryz.prog R_f47 :=
 (.call con_f1q (x, 100) fun (y1 : R_f1q) =>
 (.ite y1
 (.call con_f3v x fun (y2 : R_f3v) =>
 (.ret y2))
 (.ret false)))
theorem sd_f47 (x : X_f47) : (tt_f47 x).Sides :=
  (TT.sC fun _ => (TT.sI (TT.sC fun _ => TT.sR) TT.sR))
noncomputable def D_f47 : Dyn X_f47 R_f47 := .of tt_f47
noncomputable def con_f47 : Con Tryz.prog :=
  mkCon 19 J_f47 S_f47 D_f47 D_f47 (fun _ _ h => h) 1 0 [sh_TPg] (by kernel_rfl) (by kernel_rfl) (by kernel_rfl) (lbk mxk lbn 4000 (fun x => by kernel_rfl) sd_f47) rfl rfl (fun _ => rfl) (by kernel_rfl) rfl (fun _ => rfl) (fun x y _ => by kernel_rfl)
structure TR2 where
  L : (Sl TSo)
  Readers : Int
def d_TR2 (v : V) : TR2 :=
  ⟨dsl_TSo (fd v 0), dI (fd v 1)⟩
def e_TR2 (x : TR2) : V :=
  V.cons (esl_TSo x.L) (V.cons ((V.int .i64) x.Readers) (V.unit))
theorem nu_e_TR2 (x : TR2) : (e_TR2 x).NoU := ⟨trivial, trivial, trivial⟩
def sh_TR2 : Sh := (.cons hsl_TSo .any)
abbrev DslA_TSo : Type := (Sl TSo)
def eslA_TSo : DslA_TSo → V := (eSl (some 150) 3 e_TSo)
def dslA_TSo : V → DslA_TSo := (dSl d_TSo)
def hslA_TSo : Sh := (.sl (some 150) 3 (e_TSo (d_TSo .undef)))
def e_TR2_0 (x : TR2) : V :=
  V.cons (eslA_TSo x.L) (V.cons ((V.int .i64) x.Readers) (V.unit))
theorem nu_e_TR2_0 (x : TR2) : (e_TR2_0 x).NoU := ⟨trivial, trivial, trivial⟩
def sh_TR2_0 : Sh := (.cons hslA_TSo .any)
abbrev X_f2k : Type := Int × Int
abbrev R_f2k : Type := TR2
noncomputable def J_f2k : Job Tryz.prog :=
  job Tryz.prog Tryz.f116 24 [(15, 1)] [] [] [] [sh_TR2] [] [] R_f2k [] fun y => [e_TR2 y]
noncomputable def S_f2k : LabS :=
  lab0 Tryz.f116 2 0 X_f2k (fun x => [(V.int .i64) x.1, (V.int .i64) x.2]) fun l => (dI (at_ l 0), dI (at_ l 1))
structure X_f2k_3 where
  places_0 : Int
  i_6 : Int
  m_4 : TR2
  m_5 : TR2
noncomputable def S_f2k_3 : LabS :=
  labAt Tryz.f116 3 [(0, .any), (4, .any), (5, .any), (6, .any)] [] [(.loc 4 0, sh_TR2), (.loc 5 0, sh_TR2_0)] X_f2k_3 (fun x => [(V.int .i64) x.places_0, (V.ptr (.loc 4 0) []), (V.ptr (.loc 5 0) []), (V.int .i64) x.i_6, e_TR2 x.m_4, e_TR2_0 x.m_5]) fun l => ⟨dI (at_ l 0), dI (at_ l 3), d_TR2 (at_ l 4), d_TR2 (at_ l 5)⟩
noncomputable def tt_f2k_3 (D_f2k_3 : Dyn X_f2k_3 R_f2k) (x : X_f2k_3) : TT Tryz.prog R_f2k :=
 (.ite (ilt x.i_6 x.places_0)
 (.need (true && (room (x.m_5.L.n + 1) 24)) <|
 (.jump S_f2k_3 D_f2k_3 (X_f2k_3.mk x.places_0 (IntKind.i64.wrap (x.i_6 + 1)) x.m_4 (TR2.mk (Sl.mk (cond (Nat.beq 1 0) x.m_5.L.nil false) (x.m_5.L.n + 1) (fun i2 => (TSo.mk (cond (Nat.blt i2 x.m_5.L.n) (x.m_5.L.get i2).Stamp (IntKind.u64.wrap ((2 : Int) * (IntKind.u64.wrap x.i_6)))) (cond (Nat.blt i2 x.m_5.L.n) (x.m_5.L.get i2).Value (0 : Int)) (cond (Nat.blt i2 x.m_5.L.n) (x.m_5.L.get i2).Left (0 : Int))))) x.m_5.Readers))))
 (.ret x.m_5))
theorem sd_f2k_3 (D_f2k_3 : Dyn X_f2k_3 R_f2k) (x : X_f2k_3) : (tt_f2k_3 D_f2k_3 x).Sides :=
  (TT.sI (TT.sN TT.sJ) TT.sR)
noncomputable def D_f2k_3 : Dyn X_f2k_3 R_f2k := Dyn.loop tt_f2k_3
theorem ok_f2k_3 : LabOK J_f2k S_f2k_3 D_f2k_3 :=
  loop_ok fun D_f2k_3 h_3 => lbk mxk (lbc h_3 rfl lbn) 4000 (fun x => by kernel_rfl) (sd_f2k_3 D_f2k_3)
noncomputable def tt_f2k (x : X_f2k) : TT Tryz.prog R_f2k :=
 (.jump S_f2k_3 D_f2k_3 (X_f2k_3.mk x.fst 0 (TR2.mk (Sl.mk true 0 (fun _i1 => (TSo.mk 0 0 0))) 0) (TR2.mk (Sl.mk true 0 (fun _i1 => (TSo.mk 0 0 0))) x.snd)))
theorem sd_f2k (x : X_f2k) : (tt_f2k x).Sides :=
  TT.sJ
noncomputable def D_f2k : Dyn X_f2k R_f2k := .of tt_f2k
noncomputable def con_f2k : Con Tryz.prog :=
  mkCon 116 J_f2k S_f2k D_f2k D_f2k (fun _ _ h => h) 2 0 [.any, .any] (by kernel_rfl) (by kernel_rfl) (by kernel_rfl) (lbk mxk (lbc ok_f2k_3 rfl lbn) 4000 (fun x => by kernel_rfl) sd_f2k) rfl rfl (fun _ => rfl) (by kernel_rfl) rfl (fun _ => rfl) (fun x y _ => by kernel_rfl)
structure TR3 where
  Cap : Int
  Tail : Int
  Heads : (Sl Int)
  Closed : Bool
  S : TR2
def d_TR3 (v : V) : TR3 :=
  ⟨dI (fd v 0), dI (fd v 1), dsl_u64 (fd v 2), dB (fd v 3), d_TR2 (fd v 4)⟩
def e_TR3 (x : TR3) : V :=
  V.cons ((V.int .u64) x.Cap) (V.cons ((V.int .u64) x.Tail) (V.cons (esl_u64 x.Heads) (V.cons (V.bool x.Closed) (V.cons (e_TR2 x.S) (V.unit)))))
theorem nu_e_TR3 (x : TR3) : (e_TR3 x).NoU := ⟨trivial, trivial, trivial, trivial, (nu_e_TR2 : ∀ y, (e_TR2 y).NoU) x.S, trivial⟩
def sh_TR3 : Sh := (.cons .any (.cons .any (.cons hsl_u64 (.cons .any (.cons sh_TR2 .any)))))
abbrev X_f44 : Type := TRg
abbrev R_f44 : Type := TR3
noncomputable def J_f44 : Job Tryz.prog :=
  job Tryz.prog Tryz.f69 15 [(1, 3), (8, 2)] [] [] [] [sh_TR3] [] [con_f2k] R_f44 [] fun y => [e_TR3 y]
noncomputable def S_f44 : LabS :=
  lab0 Tryz.f69 1 0 X_f44 (fun x => [e_TRg x]) fun l => (d_TRg (at_ l 0))
noncomputable def tt_f44 (x : X_f44) : TT Tryz.prog R_f44 :=
 (.need ((((upto x.Readers (Int.toNat x.Readers)) && (ile 0 x.Readers)) && (room (Int.toNat x.Readers) 8)) && (decide ((x.Readers ≤ (9223372036854775807 : Int))))) <|
 (.call con_f2k (x.Cap, x.Readers) fun (y1 : R_f2k) =>
 (.ret (TR3.mk (IntKind.u64.wrap x.Cap) 0 (Sl.mk false (Int.toNat x.Readers) (fun _i2 => (0 : Int))) false y1))))
theorem sd_f44 (x : X_f44) : (tt_f44 x).Sides :=
  (TT.sN (TT.sC fun _ => TT.sR))
noncomputable def D_f44 : Dyn X_f44 R_f44 := .of tt_f44
noncomputable def con_f44 : Con Tryz.prog :=
  mkCon 69 J_f44 S_f44 D_f44 D_f44 (fun _ _ h => h) 1 0 [.any] (by kernel_rfl) (by kernel_rfl) (by kernel_rfl) (lbk mxk lbn 4000 (fun x => by kernel_rfl) sd_f44) rfl rfl (fun _ => rfl) (by kernel_rfl) rfl (fun _ => rfl) (fun x y _ => by kernel_rfl)
abbrev X_f3d : Type := TR3
abbrev R_f3d : Type := TRs
noncomputable def J_f3d : Job Tryz.prog :=
  job Tryz.prog Tryz.f68 17 [(1, 3)] [] [] [] [sh_TRs] [] [] R_f3d [] fun y => [e_TRs y]
noncomputable def S_f3d : LabS :=
  lab0 Tryz.f68 1 0 X_f3d (fun x => [e_TR3 x]) fun l => (d_TR3 (at_ l 0))
noncomputable def tt_f3d (x : X_f3d) : TT Tryz.prog R_f3d :=
 (.need (true && (room ((0 : Nat) + x.Heads.n) 8)) <|
 (.need (true && (room ((0 : Nat) + x.S.L.n) 24)) <|
 (.ret (TRs.mk x.Tail (Sl.mk (cond (Nat.beq x.Heads.n 0) false false) ((0 : Nat) + x.Heads.n) (fun i1 => (cond (Nat.blt i1 0) (0 : Int) (x.Heads.get (i1 - 0))))) x.Closed (Sl.mk (cond (Nat.beq x.S.L.n 0) false false) ((0 : Nat) + x.S.L.n) (fun i1 => (TSo.mk (cond (Nat.blt i1 0) (0 : Int) (x.S.L.get (i1 - 0)).Stamp) (cond (Nat.blt i1 0) (0 : Int) (x.S.L.get (i1 - 0)).Value) (cond (Nat.blt i1 0) (0 : Int) (x.S.L.get (i1 - 0)).Left))))))))
theorem sd_f3d (x : X_f3d) : (tt_f3d x).Sides :=
  (TT.sN (TT.sN TT.sR))
noncomputable def D_f3d : Dyn X_f3d R_f3d := .of tt_f3d
noncomputable def con_f3d : Con Tryz.prog :=
  mkCon 68 J_f3d S_f3d D_f3d D_f3d (fun _ _ h => h) 1 0 [sh_TR3] (by kernel_rfl) (by kernel_rfl) (by kernel_rfl) (lbk mxk lbn 4000 (fun x => by kernel_rfl) sd_f3d) rfl rfl (fun _ => rfl) (by kernel_rfl) rfl (fun _ => rfl) (fun x y _ => by kernel_rfl)
abbrev X_f2l : Type := TPg
abbrev R_f2l : Type := TSt
noncomputable def J_f2l : Job Tryz.prog :=
  job Tryz.prog Tryz.f29 30 [(1, 3), (8, 2), (18, 1)] [] [] [] [sh_TSt] [] [con_f44, con_f3d] R_f2l [] fun y => [e_TSt y]
noncomputable def S_f2l : LabS :=
  lab0 Tryz.f29 1 0 X_f2l (fun x => [e_TPg x]) fun l => (d_TPg (at_ l 0))
structure X_f2l_3 where
  p_1 : TPg
  i_4 : Int
  m_2 : TSt
  m_3 : TSt
noncomputable def S_f2l_3 : LabS :=
  labAt Tryz.f29 3 [(1, .any), (2, .any), (3, .any), (4, .any)] [] [(.loc 2 0, sh_TSt), (.loc 3 0, sh_TSt_1)] X_f2l_3 (fun x => [(eVp e_TPg) x.p_1, (V.ptr (.loc 2 0) []), (V.ptr (.loc 3 0) []), (V.int .i64) x.i_4, e_TSt x.m_2, e_TSt_1 x.m_3]) fun l => ⟨(dVp d_TPg) (at_ l 0), dI (at_ l 3), d_TSt (at_ l 4), d_TSt (at_ l 5)⟩
noncomputable def tt_f2l_3 (D_f2l_3 : Dyn X_f2l_3 R_f2l) (x : X_f2l_3) : TT Tryz.prog R_f2l :=
 (.ite (ilt x.i_4 ((x.p_1.Rings.n : Nat) : Int))
 (.need (inb x.i_4 x.p_1.Rings.n) <|
 (.call con_f44 (x.p_1.Rings.get (Int.toNat x.i_4)) fun (y2 : R_f44) =>
 (.call con_f3d y2 fun (y3 : R_f3d) =>
 (.need (true && (room (x.m_3.Rings.n + 1) 64)) <|
 (.jump S_f2l_3 D_f2l_3 (X_f2l_3.mk x.p_1 (IntKind.i64.wrap (x.i_4 + 1)) x.m_2 (TSt.mk x.m_3.Threads (Sl.mk (cond (Nat.beq 1 0) x.m_3.Rings.nil false) (x.m_3.Rings.n + 1) (fun i4 => (TRs.mk (cond (Nat.blt i4 x.m_3.Rings.n) (x.m_3.Rings.get i4).Tail y3.Tail) (Sl.mk (cond (Nat.blt i4 x.m_3.Rings.n) (x.m_3.Rings.get i4).Heads.nil y3.Heads.nil) (cond (Nat.blt i4 x.m_3.Rings.n) (x.m_3.Rings.get i4).Heads.n y3.Heads.n) (fun i5 => (cond (Nat.blt i4 x.m_3.Rings.n) ((x.m_3.Rings.get i4).Heads.get i5) (y3.Heads.get i5)))) (cond (Nat.blt i4 x.m_3.Rings.n) (x.m_3.Rings.get i4).Closed y3.Closed) (Sl.mk (cond (Nat.blt i4 x.m_3.Rings.n) (x.m_3.Rings.get i4).Slots.nil y3.Slots.nil) (cond (Nat.blt i4 x.m_3.Rings.n) (x.m_3.Rings.get i4).Slots.n y3.Slots.n) (fun i5 => (TSo.mk (cond (Nat.blt i4 x.m_3.Rings.n) ((x.m_3.Rings.get i4).Slots.get i5).Stamp (y3.Slots.get i5).Stamp) (cond (Nat.blt i4 x.m_3.Rings.n) ((x.m_3.Rings.get i4).Slots.get i5).Value (y3.Slots.get i5).Value) (cond (Nat.blt i4 x.m_3.Rings.n) ((x.m_3.Rings.get i4).Slots.get i5).Left (y3.Slots.get i5).Left))))))) x.m_3.Now x.m_3.Reads x.m_3.Ended)))))))
 (.ret x.m_3))
theorem sd_f2l_3 (D_f2l_3 : Dyn X_f2l_3 R_f2l) (x : X_f2l_3) : (tt_f2l_3 D_f2l_3 x).Sides :=
  (TT.sI (TT.sN (TT.sC fun _ => (TT.sC fun _ => (TT.sN TT.sJ)))) TT.sR)
noncomputable def D_f2l_3 : Dyn X_f2l_3 R_f2l := Dyn.loop tt_f2l_3
theorem ok_f2l_3 : LabOK J_f2l S_f2l_3 D_f2l_3 :=
  loop_ok fun D_f2l_3 h_3 => lbk mxk (lbc h_3 rfl lbn) 4000 (fun x => by kernel_rfl) (sd_f2l_3 D_f2l_3)
noncomputable def tt_f2l (x : X_f2l) : TT Tryz.prog R_f2l :=
 (.need ((((upto ((x.Threads.n : Nat) : Int) (Int.toNat ((x.Threads.n : Nat) : Int))) && (ile 0 ((x.Threads.n : Nat) : Int))) && (room (Int.toNat ((x.Threads.n : Nat) : Int)) 128)) && (decide ((((x.Threads.n : Nat) : Int) ≤ (9223372036854775807 : Int))))) <|
 (.jump S_f2l_3 D_f2l_3 (X_f2l_3.mk x 0 (TSt.mk (Sl.mk true 0 (fun _i1 => (TTh.mk 0 0 0 0 0 (fun _i2 => (0 : Int)) (Sl.mk true 0 (fun _i2 => (0 : Int)))))) (Sl.mk true 0 (fun _i1 => (TRs.mk 0 (Sl.mk true 0 (fun _i2 => (0 : Int))) false (Sl.mk true 0 (fun _i2 => (TSo.mk 0 0 0)))))) 0 0 false) (TSt.mk (Sl.mk false (Int.toNat ((x.Threads.n : Nat) : Int)) (fun _i1 => (TTh.mk 0 0 0 0 0 (fun _i2 => (0 : Int)) (Sl.mk true 0 (fun _i2 => (0 : Int)))))) (Sl.mk true 0 (fun _i1 => (TRs.mk 0 (Sl.mk true 0 (fun _i2 => (0 : Int))) false (Sl.mk true 0 (fun _i2 => (TSo.mk 0 0 0)))))) 0 0 false))))
theorem sd_f2l (x : X_f2l) : (tt_f2l x).Sides :=
  (TT.sN TT.sJ)
noncomputable def D_f2l : Dyn X_f2l R_f2l := .of tt_f2l
noncomputable def con_f2l : Con Tryz.prog :=
  mkCon 29 J_f2l S_f2l D_f2l D_f2l (fun _ _ h => h) 1 0 [sh_TPg] (by kernel_rfl) (by kernel_rfl) (by kernel_rfl) (lbk mxk (lbc ok_f2l_3 rfl lbn) 4000 (fun x => by kernel_rfl) sd_f2l) rfl rfl (fun _ => rfl) (by kernel_rfl) rfl (fun _ => rfl) (fun x y _ => by kernel_rfl)
abbrev X_f3l : Type := Int
abbrev R_f3l : Type := ByteArray
noncomputable def J_f3l : Job Tryz.prog :=
  job Tryz.prog Tryz.f162 19 [] [] [] [] [.any] [] [] R_f3l [] fun y => [V.str y]
noncomputable def S_f3l : LabS :=
  lab0 Tryz.f162 1 0 X_f3l (fun x => [(V.int .i64) x]) fun l => (dI (at_ l 0))
noncomputable def tt_f3l (x : X_f3l) : TT Tryz.prog R_f3l :=
 (.ite (ieq x 1)
 (.ret (ByteArray.mk #[82, 84]))
 (.ite (ieq x 2)
 (.ret (ByteArray.mk #[82, 84]))
 (.ite (ieq x 3)
 (.ret (ByteArray.mk #[82, 84]))
 (.ite (ieq x 4)
 (.ret (ByteArray.mk #[82, 84]))
 (.ite (ieq x 13)
 (.ret (ByteArray.mk #[82, 84]))
 (.ite (ieq x 5)
 (.ret (ByteArray.mk #[82]))
 (.ite (ieq x 6)
 (.ret (ByteArray.mk #[82]))
 (.ite (ieq x 7)
 (.ret (ByteArray.mk #[82]))
 (.ite (ieq x 8)
 (.ret (ByteArray.mk #[86]))
 (.ite (ieq x 9)
 (.ret (ByteArray.mk #[86]))
 (.ite (ieq x 10)
 (.ret (ByteArray.mk #[86]))
 (.ite (ieq x 12)
 (.ret (ByteArray.mk #[86]))
 (.ret (ByteArray.mk #[]))))))))))))))
theorem sd_f3l (x : X_f3l) : (tt_f3l x).Sides :=
  (TT.sI TT.sR (TT.sI TT.sR (TT.sI TT.sR (TT.sI TT.sR (TT.sI TT.sR (TT.sI TT.sR (TT.sI TT.sR (TT.sI TT.sR (TT.sI TT.sR (TT.sI TT.sR (TT.sI TT.sR (TT.sI TT.sR TT.sR))))))))))))
noncomputable def D_f3l : Dyn X_f3l R_f3l := .of tt_f3l
noncomputable def con_f3l : Con Tryz.prog :=
  mkCon 162 J_f3l S_f3l D_f3l D_f3l (fun _ _ h => h) 1 0 [.any] (by kernel_rfl) (by kernel_rfl) (by kernel_rfl) (lbk mxk lbn 4000 (fun x => by kernel_rfl) sd_f3l) rfl rfl (fun _ => rfl) (by kernel_rfl) rfl (fun _ => rfl) (fun x y _ => by kernel_rfl)
abbrev X_f2v : Type := Int
abbrev R_f2v : Type := ByteArray
noncomputable def J_f2v : Job Tryz.prog :=
  job Tryz.prog Tryz.f163 16 [(11, 1)] [] [] [] [.any] [] [] R_f2v [] fun y => [V.str y]
noncomputable def S_f2v : LabS :=
  lab0 Tryz.f163 1 0 X_f2v (fun x => [(V.int .i64) x]) fun l => (dI (at_ l 0))
structure X_f2v_4 where
  kind_0 : Int
  names_3 : (Sl ByteArray)
noncomputable def S_f2v_4 : LabS :=
  labAt Tryz.f163 4 [(0, .any), (3, hsl_str)] [] [] X_f2v_4 (fun x => [(V.int .i64) x.kind_0, esl_str x.names_3]) fun l => ⟨dI (at_ l 0), dsl_str (at_ l 1)⟩
noncomputable def tt_f2v_4 (x : X_f2v_4) : TT Tryz.prog R_f2v :=
 (.need (inb (IntKind.i64.wrap (x.kind_0 - 1)) x.names_3.n) <|
 (.ret (x.names_3.get (Int.toNat (IntKind.i64.wrap (x.kind_0 - 1))))))
theorem sd_f2v_4 (x : X_f2v_4) : (tt_f2v_4 x).Sides :=
  (TT.sN TT.sR)
noncomputable def D_f2v_4 : Dyn X_f2v_4 R_f2v := .of tt_f2v_4
theorem ok_f2v_4 : LabOK J_f2v S_f2v_4 D_f2v_4 :=
  lbk mxk lbn 4000 (fun x => by kernel_rfl) sd_f2v_4
noncomputable def tt_f2v (x : X_f2v) : TT Tryz.prog R_f2v :=
 (.ite (ilt x 1)
 (.ret (ByteArray.mk #[]))
 (.ite (ilt 15 x)
 (.ret (ByteArray.mk #[]))
 (.jump S_f2v_4 D_f2v_4 (X_f2v_4.mk x (Sl.mk false 15 (fun i1 => (cond (Nat.beq i1 0) (ByteArray.mk #[99, 108, 97, 105, 109]) (cond (Nat.beq i1 1) (ByteArray.mk #[112, 117, 98, 108, 105, 115, 104]) (cond (Nat.beq i1 2) (ByteArray.mk #[116, 97, 107, 101]) (cond (Nat.beq i1 3) (ByteArray.mk #[114, 101, 108, 101, 97, 115, 101]) (cond (Nat.beq i1 4) (ByteArray.mk #[110, 111]) (cond (Nat.beq i1 5) (ByteArray.mk #[115, 104, 117, 116]) (cond (Nat.beq i1 6) (ByteArray.mk #[116, 105, 109, 101]) (cond (Nat.beq i1 7) (ByteArray.mk #[99, 108, 111, 99, 107]) (cond (Nat.beq i1 8) (ByteArray.mk #[100, 114, 97, 119]) (cond (Nat.beq i1 9) (ByteArray.mk #[114, 101, 97, 100]) (cond (Nat.beq i1 10) (ByteArray.mk #[101, 110, 100]) (cond (Nat.beq i1 11) (ByteArray.mk #[115, 101, 101]) (cond (Nat.beq i1 12) (ByteArray.mk #[99, 108, 111, 115, 101]) (cond (Nat.beq i1 13) (ByteArray.mk #[104, 97, 108, 116]) (ByteArray.mk #[115, 112, 105, 110])))))))))))))))))))))
theorem sd_f2v (x : X_f2v) : (tt_f2v x).Sides :=
  (TT.sI TT.sR (TT.sI TT.sR TT.sJ))
noncomputable def D_f2v : Dyn X_f2v R_f2v := .of tt_f2v
noncomputable def con_f2v : Con Tryz.prog :=
  mkCon 163 J_f2v S_f2v D_f2v D_f2v (fun _ _ h => h) 1 0 [.any] (by kernel_rfl) (by kernel_rfl) (by kernel_rfl) (lbk mxk (lbc ok_f2v_4 rfl lbn) 4000 (fun x => by kernel_rfl) sd_f2v) rfl rfl (fun _ => rfl) (by kernel_rfl) rfl (fun _ => rfl) (fun x y _ => by kernel_rfl)
abbrev X_f1u : Type := ByteArray × Int
abbrev R_f1u : Type := Bool
noncomputable def J_f1u : Job Tryz.prog :=
  job Tryz.prog Tryz.f164 17 [] [] [] [] [.any] [] [] R_f1u [] fun y => [V.bool y]
noncomputable def S_f1u : LabS :=
  lab0 Tryz.f164 2 0 X_f1u (fun x => [V.str x.1, (V.int .u8) x.2]) fun l => (dS (at_ l 0), dI (at_ l 1))
structure X_f1u_2 where
  s_0 : ByteArray
  c_1 : Int
  i_5 : Int
noncomputable def S_f1u_2 : LabS :=
  labAt Tryz.f164 2 [(0, .any), (1, .any), (5, .any)] [] [] X_f1u_2 (fun x => [V.str x.s_0, (V.int .u8) x.c_1, (V.int .i64) x.i_5]) fun l => ⟨dS (at_ l 0), dI (at_ l 1), dI (at_ l 2)⟩
noncomputable def tt_f1u_2 (D_f1u_2 : Dyn X_f1u_2 R_f1u) (x : X_f1u_2) : TT Tryz.prog R_f1u :=
 (.ite (ilt x.i_5 (((ByteArray.size x.s_0) : Nat) : Int))
 (.need (inb x.i_5 (ByteArray.size x.s_0)) <|
 (.ite (ieq (bt x.s_0 (Int.toNat x.i_5)) x.c_1)
 (.ret true)
 (.jump S_f1u_2 D_f1u_2 (X_f1u_2.mk x.s_0 x.c_1 (IntKind.i64.wrap (x.i_5 + 1))))))
 (.ret false))
theorem sd_f1u_2 (D_f1u_2 : Dyn X_f1u_2 R_f1u) (x : X_f1u_2) : (tt_f1u_2 D_f1u_2 x).Sides :=
  (TT.sI (TT.sN (TT.sI TT.sR TT.sJ)) TT.sR)
noncomputable def D_f1u_2 : Dyn X_f1u_2 R_f1u := Dyn.loop tt_f1u_2
theorem ok_f1u_2 : LabOK J_f1u S_f1u_2 D_f1u_2 :=
  loop_ok fun D_f1u_2 h_2 => lbk mxk (lbc h_2 rfl lbn) 4000 (fun x => by kernel_rfl) (sd_f1u_2 D_f1u_2)
noncomputable def tt_f1u (x : X_f1u) : TT Tryz.prog R_f1u :=
 (.jump S_f1u_2 D_f1u_2 (X_f1u_2.mk x.fst x.snd 0))
theorem sd_f1u (x : X_f1u) : (tt_f1u x).Sides :=
  TT.sJ
noncomputable def D_f1u : Dyn X_f1u R_f1u := .of tt_f1u
noncomputable def con_f1u : Con Tryz.prog :=
  mkCon 164 J_f1u S_f1u D_f1u D_f1u (fun _ _ h => h) 2 0 [.any, .any] (by kernel_rfl) (by kernel_rfl) (by kernel_rfl) (lbk mxk (lbc ok_f1u_2 rfl lbn) 4000 (fun x => by kernel_rfl) sd_f1u) rfl rfl (fun _ => rfl) (by kernel_rfl) rfl (fun _ => rfl) (fun x y _ => by kernel_rfl)
abbrev X_f2i : Type := TEv
abbrev R_f2i : Type := Bool
noncomputable def J_f2i : Job Tryz.prog :=
  job Tryz.prog Tryz.f118 61 [(1, 3)] [] [] [] [.any] [] [con_f2v, con_f3l, con_f1u] R_f2i [] fun y => [V.bool y]
noncomputable def S_f2i : LabS :=
  lab0 Tryz.f118 1 0 X_f2i (fun x => [e_TEv x]) fun l => (d_TEv (at_ l 0))
structure X_f2i_4 where
  e_1 : TEv
  f_3 : ByteArray
noncomputable def S_f2i_4 : LabS :=
  labAt Tryz.f118 4 [(1, .any), (3, .any)] [] [] X_f2i_4 (fun x => [(eVp e_TEv) x.e_1, V.str x.f_3]) fun l => ⟨(dVp d_TEv) (at_ l 0), dS (at_ l 1)⟩
noncomputable def tt_f2i_4 (x : X_f2i_4) : TT Tryz.prog R_f2i :=
 (.call con_f1u (x.f_3, 82) fun (y1 : R_f1u) =>
 (.ite y1
 (.call con_f1u (x.f_3, 84) fun (y2 : R_f1u) =>
 (.ite y2
 (.call con_f1u (x.f_3, 86) fun (y3 : R_f1u) =>
 (.ite y3
 (.ret true)
 (.ret (ieq x.e_1.Value 0))))
 (.ite (ieq x.e_1.Ticket 0)
 (.call con_f1u (x.f_3, 86) fun (y3 : R_f1u) =>
 (.ite y3
 (.ret true)
 (.ret (ieq x.e_1.Value 0))))
 (.ret false))))
 (.ite (ieq x.e_1.Ring 0)
 (.call con_f1u (x.f_3, 84) fun (y2 : R_f1u) =>
 (.ite y2
 (.call con_f1u (x.f_3, 86) fun (y3 : R_f1u) =>
 (.ite y3
 (.ret true)
 (.ret (ieq x.e_1.Value 0))))
 (.ite (ieq x.e_1.Ticket 0)
 (.call con_f1u (x.f_3, 86) fun (y3 : R_f1u) =>
 (.ite y3
 (.ret true)
 (.ret (ieq x.e_1.Value 0))))
 (.ret false))))
 (.ret false))))
theorem sd_f2i_4 (x : X_f2i_4) : (tt_f2i_4 x).Sides :=
  (TT.sC fun _ => (TT.sI (TT.sC fun _ => (TT.sI (TT.sC fun _ => (TT.sI TT.sR TT.sR)) (TT.sI (TT.sC fun _ => (TT.sI TT.sR TT.sR)) TT.sR))) (TT.sI (TT.sC fun _ => (TT.sI (TT.sC fun _ => (TT.sI TT.sR TT.sR)) (TT.sI (TT.sC fun _ => (TT.sI TT.sR TT.sR)) TT.sR))) TT.sR)))
noncomputable def D_f2i_4 : Dyn X_f2i_4 R_f2i := .of tt_f2i_4
theorem ok_f2i_4 : LabOK J_f2i S_f2i_4 D_f2i_4 :=
  lbk mxk lbn 4000 (fun x => by kernel_rfl) sd_f2i_4
noncomputable def tt_f2i (x : X_f2i) : TT Tryz.prog R_f2i :=
 (.call con_f3l x.Kind fun (y1 : R_f3l) =>
 (.call con_f2v x.Kind fun (y2 : R_f2v) =>
 (.ite (seq y2 (ByteArray.mk #[]))
 (.ret false)
 (.ite (ilt x.Thread 0)
 (.ret false)
 (.ite (ilt 7 x.Thread)
 (.ret false)
 (.ite (ilt x.Ring 0)
 (.ret false)
 (.ite (ilt 7 x.Ring)
 (.ret false)
 (.ite (ile 4611686018427387904 x.Ticket)
 (.ret false)
 (.jump S_f2i_4 D_f2i_4 (X_f2i_4.mk x y1))))))))))
theorem sd_f2i (x : X_f2i) : (tt_f2i x).Sides :=
  (TT.sC fun _ => (TT.sC fun _ => (TT.sI TT.sR (TT.sI TT.sR (TT.sI TT.sR (TT.sI TT.sR (TT.sI TT.sR (TT.sI TT.sR TT.sJ))))))))
noncomputable def D_f2i : Dyn X_f2i R_f2i := .of tt_f2i
noncomputable def con_f2i : Con Tryz.prog :=
  mkCon 118 J_f2i S_f2i D_f2i D_f2i (fun _ _ h => h) 1 0 [.any] (by kernel_rfl) (by kernel_rfl) (by kernel_rfl) (lbk mxk (lbc ok_f2i_4 rfl lbn) 4000 (fun x => by kernel_rfl) sd_f2i) rfl rfl (fun _ => rfl) (by kernel_rfl) rfl (fun _ => rfl) (fun x y _ => by kernel_rfl)
abbrev X_fe : Type := Int × Int × Int
abbrev R_fe : Type := Int
noncomputable def J_fe : Job Tryz.prog :=
  job Tryz.prog Tryz.f200 58 [] [] [] [] [.any] [] [] R_fe [] fun y => [(V.int .u64) y]
noncomputable def S_fe : LabS :=
  lab0 Tryz.f200 3 0 X_fe (fun x => [(V.int .i64) x.1, (V.int .u64) x.2.1, (V.int .u64) x.2.2]) fun l => (dI (at_ l 0), dI (at_ l 1), dI (at_ l 2))
structure X_fe_3 where
  op_0 : Int
  a_1 : Int
  b_2 : Int
  out_7 : Int
  unit_8 : Int
  i_9 : Int
noncomputable def S_fe_3 : LabS :=
  labAt Tryz.f200 3 [(0, .any), (1, .any), (2, .any), (7, .any), (8, .any), (9, .any)] [] [] X_fe_3 (fun x => [(V.int .i64) x.op_0, (V.int .u64) x.a_1, (V.int .u64) x.b_2, (V.int .u64) x.out_7, (V.int .u64) x.unit_8, (V.int .i64) x.i_9]) fun l => ⟨dI (at_ l 0), dI (at_ l 1), dI (at_ l 2), dI (at_ l 3), dI (at_ l 4), dI (at_ l 5)⟩
structure X_fe_4 where
  op_0 : Int
  a_1 : Int
  b_2 : Int
  out_7 : Int
  unit_8 : Int
  i_9 : Int
noncomputable def S_fe_4 : LabS :=
  labAt Tryz.f200 4 [(0, .any), (1, .any), (2, .any), (7, .any), (8, .any), (9, .any)] [] [] X_fe_4 (fun x => [(V.int .i64) x.op_0, (V.int .u64) x.a_1, (V.int .u64) x.b_2, (V.int .u64) x.out_7, (V.int .u64) x.unit_8, (V.int .i64) x.i_9]) fun l => ⟨dI (at_ l 0), dI (at_ l 1), dI (at_ l 2), dI (at_ l 3), dI (at_ l 4), dI (at_ l 5)⟩
structure X_fe_8 where
  op_0 : Int
  a_1 : Int
  b_2 : Int
  out_7 : Int
  unit_8 : Int
  i_9 : Int
noncomputable def S_fe_8 : LabS :=
  labAt Tryz.f200 8 [(0, .any), (1, .any), (2, .any), (7, .any), (8, .any), (9, .any)] [] [] X_fe_8 (fun x => [(V.int .i64) x.op_0, (V.int .u64) x.a_1, (V.int .u64) x.b_2, (V.int .u64) x.out_7, (V.int .u64) x.unit_8, (V.int .i64) x.i_9]) fun l => ⟨dI (at_ l 0), dI (at_ l 1), dI (at_ l 2), dI (at_ l 3), dI (at_ l 4), dI (at_ l 5)⟩
noncomputable def tt_fe_4 (D_fe_3 : Dyn X_fe_3 R_fe) (x : X_fe_4) : TT Tryz.prog R_fe :=
 (.jump S_fe_3 D_fe_3 (X_fe_3.mk x.op_0 x.a_1 x.b_2 x.out_7 x.unit_8 (IntKind.i64.wrap (x.i_9 + 1))))
theorem sd_fe_4 (D_fe_3 : Dyn X_fe_3 R_fe) (x : X_fe_4) : (tt_fe_4 D_fe_3 x).Sides :=
  TT.sJ
noncomputable def D_fe_4 (D_fe_3 : Dyn X_fe_3 R_fe) : Dyn X_fe_4 R_fe := .of (tt_fe_4 D_fe_3)
theorem ok_fe_4 (D_fe_3 : Dyn X_fe_3 R_fe) (h_3 : LabOK J_fe S_fe_3 D_fe_3) : LabOK J_fe S_fe_4 (D_fe_4 D_fe_3) :=
  lbk mxk (lbc h_3 rfl lbn) 4000 (fun x => by kernel_rfl) (sd_fe_4 D_fe_3)
noncomputable def tt_fe_8 (D_fe_3 : Dyn X_fe_3 R_fe) (x : X_fe_8) : TT Tryz.prog R_fe :=
 (.jump S_fe_4 (D_fe_4 D_fe_3) (X_fe_4.mk x.op_0 (IntKind.u64.wrap (Int.tdiv x.a_1 2)) (IntKind.u64.wrap (Int.tdiv x.b_2 2)) x.out_7 (IntKind.u64.wrap (x.unit_8 * 2)) x.i_9))
theorem sd_fe_8 (D_fe_3 : Dyn X_fe_3 R_fe) (x : X_fe_8) : (tt_fe_8 D_fe_3 x).Sides :=
  TT.sJ
noncomputable def D_fe_8 (D_fe_3 : Dyn X_fe_3 R_fe) : Dyn X_fe_8 R_fe := .of (tt_fe_8 D_fe_3)
theorem ok_fe_8 (D_fe_3 : Dyn X_fe_3 R_fe) (h_3 : LabOK J_fe S_fe_3 D_fe_3) : LabOK J_fe S_fe_8 (D_fe_8 D_fe_3) :=
  lbk mxk (lbc h_3 rfl (lbc (ok_fe_4 D_fe_3 h_3) rfl lbn)) 4000 (fun x => by kernel_rfl) (sd_fe_8 D_fe_3)
noncomputable def tt_fe_3 (D_fe_3 : Dyn X_fe_3 R_fe) (x : X_fe_3) : TT Tryz.prog R_fe :=
 (.ite (ilt x.i_9 64)
 (.ite (ieq x.op_0 8)
 (.ite (ieq (IntKind.u64.wrap ((Int.tmod x.a_1 2) + (Int.tmod x.b_2 2))) 2)
 (.jump S_fe_8 (D_fe_8 D_fe_3) (X_fe_8.mk x.op_0 x.a_1 x.b_2 (IntKind.u64.wrap (x.out_7 + x.unit_8)) x.unit_8 x.i_9))
 (.ite (ieq x.op_0 9)
 (.ite (ilt 0 (IntKind.u64.wrap ((Int.tmod x.a_1 2) + (Int.tmod x.b_2 2))))
 (.jump S_fe_8 (D_fe_8 D_fe_3) (X_fe_8.mk x.op_0 x.a_1 x.b_2 (IntKind.u64.wrap (x.out_7 + x.unit_8)) x.unit_8 x.i_9))
 (.ite (ieq x.op_0 10)
 (.ite (ieq (IntKind.u64.wrap ((Int.tmod x.a_1 2) + (Int.tmod x.b_2 2))) 1)
 (.jump S_fe_8 (D_fe_8 D_fe_3) (X_fe_8.mk x.op_0 x.a_1 x.b_2 (IntKind.u64.wrap (x.out_7 + x.unit_8)) x.unit_8 x.i_9))
 (.jump S_fe_8 (D_fe_8 D_fe_3) (X_fe_8.mk x.op_0 x.a_1 x.b_2 x.out_7 x.unit_8 x.i_9)))
 (.jump S_fe_8 (D_fe_8 D_fe_3) (X_fe_8.mk x.op_0 x.a_1 x.b_2 x.out_7 x.unit_8 x.i_9))))
 (.ite (ieq x.op_0 10)
 (.ite (ieq (IntKind.u64.wrap ((Int.tmod x.a_1 2) + (Int.tmod x.b_2 2))) 1)
 (.jump S_fe_8 (D_fe_8 D_fe_3) (X_fe_8.mk x.op_0 x.a_1 x.b_2 (IntKind.u64.wrap (x.out_7 + x.unit_8)) x.unit_8 x.i_9))
 (.jump S_fe_8 (D_fe_8 D_fe_3) (X_fe_8.mk x.op_0 x.a_1 x.b_2 x.out_7 x.unit_8 x.i_9)))
 (.jump S_fe_8 (D_fe_8 D_fe_3) (X_fe_8.mk x.op_0 x.a_1 x.b_2 x.out_7 x.unit_8 x.i_9)))))
 (.ite (ieq x.op_0 9)
 (.ite (ilt 0 (IntKind.u64.wrap ((Int.tmod x.a_1 2) + (Int.tmod x.b_2 2))))
 (.jump S_fe_8 (D_fe_8 D_fe_3) (X_fe_8.mk x.op_0 x.a_1 x.b_2 (IntKind.u64.wrap (x.out_7 + x.unit_8)) x.unit_8 x.i_9))
 (.ite (ieq x.op_0 10)
 (.ite (ieq (IntKind.u64.wrap ((Int.tmod x.a_1 2) + (Int.tmod x.b_2 2))) 1)
 (.jump S_fe_8 (D_fe_8 D_fe_3) (X_fe_8.mk x.op_0 x.a_1 x.b_2 (IntKind.u64.wrap (x.out_7 + x.unit_8)) x.unit_8 x.i_9))
 (.jump S_fe_8 (D_fe_8 D_fe_3) (X_fe_8.mk x.op_0 x.a_1 x.b_2 x.out_7 x.unit_8 x.i_9)))
 (.jump S_fe_8 (D_fe_8 D_fe_3) (X_fe_8.mk x.op_0 x.a_1 x.b_2 x.out_7 x.unit_8 x.i_9))))
 (.ite (ieq x.op_0 10)
 (.ite (ieq (IntKind.u64.wrap ((Int.tmod x.a_1 2) + (Int.tmod x.b_2 2))) 1)
 (.jump S_fe_8 (D_fe_8 D_fe_3) (X_fe_8.mk x.op_0 x.a_1 x.b_2 (IntKind.u64.wrap (x.out_7 + x.unit_8)) x.unit_8 x.i_9))
 (.jump S_fe_8 (D_fe_8 D_fe_3) (X_fe_8.mk x.op_0 x.a_1 x.b_2 x.out_7 x.unit_8 x.i_9)))
 (.jump S_fe_8 (D_fe_8 D_fe_3) (X_fe_8.mk x.op_0 x.a_1 x.b_2 x.out_7 x.unit_8 x.i_9)))))
 (.ret x.out_7))
theorem sd_fe_3 (D_fe_3 : Dyn X_fe_3 R_fe) (x : X_fe_3) : (tt_fe_3 D_fe_3 x).Sides :=
  (TT.sI (TT.sI (TT.sI TT.sJ (TT.sI (TT.sI TT.sJ (TT.sI (TT.sI TT.sJ TT.sJ) TT.sJ)) (TT.sI (TT.sI TT.sJ TT.sJ) TT.sJ))) (TT.sI (TT.sI TT.sJ (TT.sI (TT.sI TT.sJ TT.sJ) TT.sJ)) (TT.sI (TT.sI TT.sJ TT.sJ) TT.sJ))) TT.sR)
noncomputable def D_fe_3 : Dyn X_fe_3 R_fe := Dyn.loop tt_fe_3
theorem ok_fe_3 : LabOK J_fe S_fe_3 D_fe_3 :=
  loop_ok fun D_fe_3 h_3 => lbk mxk (lbc h_3 rfl (lbc (ok_fe_4 D_fe_3 h_3) rfl (lbc (ok_fe_8 D_fe_3 h_3) rfl lbn))) 4000 (fun x => by kernel_rfl) (sd_fe_3 D_fe_3)
noncomputable def tt_fe (x : X_fe) : TT Tryz.prog R_fe :=
 (.jump S_fe_3 D_fe_3 (X_fe_3.mk x.fst x.snd.fst x.snd.snd 0 1 0))
theorem sd_fe (x : X_fe) : (tt_fe x).Sides :=
  TT.sJ
noncomputable def D_fe : Dyn X_fe R_fe := .of tt_fe
noncomputable def con_fe : Con Tryz.prog :=
  mkCon 200 J_fe S_fe D_fe D_fe (fun _ _ h => h) 3 0 [.any, .any, .any] (by kernel_rfl) (by kernel_rfl) (by kernel_rfl) (lbk mxk (lbc ok_fe_3 rfl lbn) 4000 (fun x => by kernel_rfl) sd_fe) rfl rfl (fun _ => rfl) (by kernel_rfl) rfl (fun _ => rfl) (fun x y _ => by kernel_rfl)
abbrev X_ft : Type := Int × Int × Int
abbrev R_ft : Type := Int × Bool
noncomputable def J_ft : Job Tryz.prog :=
  job Tryz.prog Tryz.f194 84 [] [] [] [] [.any, .any] [] [con_fe] R_ft [] fun y => [V.tup (V.cons ((V.int .u64) y.1) (V.cons (V.bool y.2) (V.unit)))]
noncomputable def S_ft : LabS :=
  lab0 Tryz.f194 3 0 X_ft (fun x => [(V.int .i64) x.1, (V.int .u64) x.2.1, (V.int .u64) x.2.2]) fun l => (dI (at_ l 0), dI (at_ l 1), dI (at_ l 2))
structure X_ft_22 where
  a_1 : Int
  b_2 : Int
  i_8 : Int
noncomputable def S_ft_22 : LabS :=
  labAt Tryz.f194 22 [(1, .any), (2, .any), (8, .any)] [] [] X_ft_22 (fun x => [(V.int .u64) x.a_1, (V.int .u64) x.b_2, (V.int .u64) x.i_8]) fun l => ⟨dI (at_ l 0), dI (at_ l 1), dI (at_ l 2)⟩
structure X_ft_25 where
  a_1 : Int
noncomputable def S_ft_25 : LabS :=
  labAt Tryz.f194 25 [(1, .any)] [] [] X_ft_25 (fun x => [(V.int .u64) x.a_1]) fun l => ⟨dI (at_ l 0)⟩
structure X_ft_28 where
  a_1 : Int
  b_2 : Int
  i_9 : Int
noncomputable def S_ft_28 : LabS :=
  labAt Tryz.f194 28 [(1, .any), (2, .any), (9, .any)] [] [] X_ft_28 (fun x => [(V.int .u64) x.a_1, (V.int .u64) x.b_2, (V.int .u64) x.i_9]) fun l => ⟨dI (at_ l 0), dI (at_ l 1), dI (at_ l 2)⟩
structure X_ft_31 where
  a_1 : Int
noncomputable def S_ft_31 : LabS :=
  labAt Tryz.f194 31 [(1, .any)] [] [] X_ft_31 (fun x => [(V.int .u64) x.a_1]) fun l => ⟨dI (at_ l 0)⟩
noncomputable def tt_ft_31 (x : X_ft_31) : TT Tryz.prog R_ft :=
 (.ret (x.a_1, true))
theorem sd_ft_31 (x : X_ft_31) : (tt_ft_31 x).Sides :=
  TT.sR
noncomputable def D_ft_31 : Dyn X_ft_31 R_ft := .of tt_ft_31
theorem ok_ft_31 : LabOK J_ft S_ft_31 D_ft_31 :=
  lbk mxk lbn 4000 (fun x => by kernel_rfl) sd_ft_31
noncomputable def tt_ft_28 (D_ft_28 : Dyn X_ft_28 R_ft) (x : X_ft_28) : TT Tryz.prog R_ft :=
 (.ite (ilt x.i_9 (Int.tmod x.b_2 64))
 (.jump S_ft_28 D_ft_28 (X_ft_28.mk (IntKind.u64.wrap (Int.tdiv x.a_1 2)) x.b_2 (IntKind.u64.wrap (x.i_9 + 1))))
 (.jump S_ft_31 D_ft_31 (X_ft_31.mk x.a_1)))
theorem sd_ft_28 (D_ft_28 : Dyn X_ft_28 R_ft) (x : X_ft_28) : (tt_ft_28 D_ft_28 x).Sides :=
  (TT.sI TT.sJ TT.sJ)
noncomputable def D_ft_28 : Dyn X_ft_28 R_ft := Dyn.loop tt_ft_28
theorem ok_ft_28 : LabOK J_ft S_ft_28 D_ft_28 :=
  loop_ok fun D_ft_28 h_28 => lbk mxk (lbc h_28 rfl (lbc ok_ft_31 rfl lbn)) 4000 (fun x => by kernel_rfl) (sd_ft_28 D_ft_28)
noncomputable def tt_ft_25 (x : X_ft_25) : TT Tryz.prog R_ft :=
 (.ret (x.a_1, true))
theorem sd_ft_25 (x : X_ft_25) : (tt_ft_25 x).Sides :=
  TT.sR
noncomputable def D_ft_25 : Dyn X_ft_25 R_ft := .of tt_ft_25
theorem ok_ft_25 : LabOK J_ft S_ft_25 D_ft_25 :=
  lbk mxk (lbc ok_ft_31 rfl (lbc ok_ft_28 rfl lbn)) 4000 (fun x => by kernel_rfl) sd_ft_25
noncomputable def tt_ft_22 (D_ft_22 : Dyn X_ft_22 R_ft) (x : X_ft_22) : TT Tryz.prog R_ft :=
 (.ite (ilt x.i_8 (Int.tmod x.b_2 64))
 (.jump S_ft_22 D_ft_22 (X_ft_22.mk (IntKind.u64.wrap (x.a_1 * 2)) x.b_2 (IntKind.u64.wrap (x.i_8 + 1))))
 (.jump S_ft_25 D_ft_25 (X_ft_25.mk x.a_1)))
theorem sd_ft_22 (D_ft_22 : Dyn X_ft_22 R_ft) (x : X_ft_22) : (tt_ft_22 D_ft_22 x).Sides :=
  (TT.sI TT.sJ TT.sJ)
noncomputable def D_ft_22 : Dyn X_ft_22 R_ft := Dyn.loop tt_ft_22
theorem ok_ft_22 : LabOK J_ft S_ft_22 D_ft_22 :=
  loop_ok fun D_ft_22 h_22 => lbk mxk (lbc h_22 rfl (lbc ok_ft_31 rfl (lbc ok_ft_28 rfl (lbc ok_ft_25 rfl lbn)))) 4000 (fun x => by kernel_rfl) (sd_ft_22 D_ft_22)
noncomputable def tt_ft (x : X_ft) : TT Tryz.prog R_ft :=
 (.ite (ieq x.fst 3)
 (.ret ((IntKind.u64.wrap (x.snd.fst + x.snd.snd)), true))
 (.ite (ieq x.fst 4)
 (.ret ((IntKind.u64.wrap (x.snd.fst - x.snd.snd)), true))
 (.ite (ieq x.fst 5)
 (.ret ((IntKind.u64.wrap (x.snd.fst * x.snd.snd)), true))
 (.ite (ieq x.fst 6)
 (.ite (ieq x.snd.snd 0)
 (.ret (0, true))
 (.need (!(ieq x.snd.snd 0)) <|
 (.ret ((IntKind.u64.wrap (Int.tdiv x.snd.fst x.snd.snd)), true))))
 (.ite (ieq x.fst 7)
 (.ite (ieq x.snd.snd 0)
 (.ret (0, true))
 (.need (!(ieq x.snd.snd 0)) <|
 (.ret ((IntKind.u64.wrap (x.snd.fst - (IntKind.u64.wrap ((IntKind.u64.wrap (Int.tdiv x.snd.fst x.snd.snd)) * x.snd.snd)))), true))))
 (.ite (ieq x.fst 8)
 (.call con_fe x fun (y1 : R_fe) =>
 (.ret (y1, true)))
 (.ite (ieq x.fst 9)
 (.call con_fe x fun (y1 : R_fe) =>
 (.ret (y1, true)))
 (.ite (ieq x.fst 10)
 (.call con_fe x fun (y1 : R_fe) =>
 (.ret (y1, true)))
 (.ite (ieq x.fst 11)
 (.jump S_ft_22 D_ft_22 (X_ft_22.mk x.snd.fst x.snd.snd 0))
 (.ite (ieq x.fst 12)
 (.jump S_ft_28 D_ft_28 (X_ft_28.mk x.snd.fst x.snd.snd 0))
 (.ite (ieq x.fst 13)
 (.ite (ilt x.snd.fst x.snd.snd)
 (.ret (1, true))
 (.ret (0, true)))
 (.ite (ieq x.fst 14)
 (.ite (ieq x.snd.fst x.snd.snd)
 (.ret (1, true))
 (.ret (0, true)))
 (.ret (0, false))))))))))))))
theorem sd_ft (x : X_ft) : (tt_ft x).Sides :=
  (TT.sI TT.sR (TT.sI TT.sR (TT.sI TT.sR (TT.sI (TT.sI TT.sR (TT.sN TT.sR)) (TT.sI (TT.sI TT.sR (TT.sN TT.sR)) (TT.sI (TT.sC fun _ => TT.sR) (TT.sI (TT.sC fun _ => TT.sR) (TT.sI (TT.sC fun _ => TT.sR) (TT.sI TT.sJ (TT.sI TT.sJ (TT.sI (TT.sI TT.sR TT.sR) (TT.sI (TT.sI TT.sR TT.sR) TT.sR))))))))))))
noncomputable def D_ft : Dyn X_ft R_ft := .of tt_ft
noncomputable def con_ft : Con Tryz.prog :=
  mkCon 194 J_ft S_ft D_ft D_ft (fun _ _ h => h) 3 0 [.any, .any, .any] (by kernel_rfl) (by kernel_rfl) (by kernel_rfl) (lbk mxk (lbc ok_ft_31 rfl (lbc ok_ft_28 rfl (lbc ok_ft_25 rfl (lbc ok_ft_22 rfl lbn)))) 4000 (fun x => by kernel_rfl) sd_ft) rfl rfl (fun _ => rfl) (by kernel_rfl) rfl (fun _ => rfl) (fun x y _ => by kernel_rfl)
end Go.Proofs.YtiplcdhnjennfaaGreat
