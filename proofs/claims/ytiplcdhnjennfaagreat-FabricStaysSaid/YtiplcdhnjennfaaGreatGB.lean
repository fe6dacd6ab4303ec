/- What functions of the program come to, part B: no statement is proved here. -/
import Derived.Test.YtiplcdhnjennfaaGreatGA
namespace Go.Proofs.YtiplcdhnjennfaaGreat
open Go Go.Vm Go.Proofs
set_option maxRecDepth 100000
abbrev X_f2 : Type := TSo × TRr
abbrev R_f2 : Type := Bool
abbrev RR_f2 : Type := Bool × TRr
abbrev p_f2 (y : RR_f2) : TRr := y.2
abbrev w_f2 (x : X_f2) : TRr := x.2
noncomputable def J_f2 : Job Tryz.prog :=
  job Tryz.prog Tryz.f128 74 [(3, 3)] [(9, [.back (.loc 30 0)]), (11, [.back (.loc 30 0)]), (13, [.back (.loc 30 0)])] [] [.back (.loc 30 0)] [.any] [sh_TRr] [] RR_f2 [(6, [⟨.loc 30 0, .par 0, [.fld 0 0, .fld 1 1], none, none⟩]), (12, [⟨.loc 30 0, .par 0, [.fld 0 0, .fld 1 1], none, none⟩])] fun y => [V.bool y.1, e_TRr y.2]
noncomputable def S_f2 : LabS :=
  lab0 Tryz.f128 2 1 X_f2 (fun x => [(V.ptr (.par 0) []), e_TSo x.1, e_TRr x.2]) fun l => (d_TSo (at_ l 1), d_TRr (at_ l 2))
structure X_f2_5 where
  x_3 : TSo
  t_5 : Int
  held_6 : Bool
  o_0 : TRr
noncomputable def S_f2_5 : LabS :=
  labAt Tryz.f128 5 [(0, .any), (3, .any), (5, .any), (6, .any)] [sh_TRr] [] X_f2_5 (fun x => [(V.ptr (.par 0) []), (eVp e_TSo) x.x_3, (V.int .u64) x.t_5, V.bool x.held_6, e_TRr x.o_0]) fun l => ⟨(dVp d_TSo) (at_ l 1), dI (at_ l 2), dB (at_ l 3), d_TRr (at_ l 4)⟩
structure X_f2_6 where
  x_3 : TSo
  t_5 : Int
  held_6 : Bool
  q_31 : Int
  q_32 : Int
  o_0 : TRr
noncomputable def S_f2_6 : LabS :=
  labAt Tryz.f128 6 [(0, .any), (3, .any), (5, .any), (6, .any), (30, .any), (31, .any), (32, .any)] [sh_TRr] [(.loc 30 0, .any)] X_f2_6 (fun x => [(V.ptr (.par 0) []), (eVp e_TSo) x.x_3, (V.int .u64) x.t_5, V.bool x.held_6, (V.own (.loc 30 0) [] 1 x.o_0.cursors.heads.n 0 x.o_0.cursors.heads.n), (V.int .i64) x.q_31, (V.int .i64) x.q_32, V.cons (V.cons ((V.int .u64) x.o_0.cursors.tail) (V.cons (V.lent (.loc 30 0) 35 1 x.o_0.cursors.heads.nil x.o_0.cursors.heads.n) (V.unit))) (V.cons (ebox_TSs x.o_0.s) (V.cons ((V.int .u64) x.o_0.most) (V.cons (V.bool x.o_0.closed) (V.unit)))), (V.arr 1 x.o_0.cursors.heads.n fun i => (V.int .u64) (x.o_0.cursors.heads.get i))]) fun l => ⟨(dVp d_TSo) (at_ l 1), dI (at_ l 2), dB (at_ l 3), dI (at_ l 5), dI (at_ l 6), { d_TRr (at_ l 7) with cursors.heads := ⟨(dLn (fd (fd (at_ l 7) 0) 1)).nil, (dLn (fd (fd (at_ l 7) 0) 1)).n, (dAr dI (at_ l 8)).get⟩ }⟩
structure X_f2_12 where
  x_3 : TSo
  t_5 : Int
  held_6 : Bool
  q_31 : Int
  q_32 : Int
  o_0 : TRr
noncomputable def S_f2_12 : LabS :=
  labAt Tryz.f128 12 [(0, .any), (3, .any), (5, .any), (6, .any), (30, .any), (31, .any), (32, .any)] [sh_TRr] [(.loc 30 0, .any)] X_f2_12 (fun x => [(V.ptr (.par 0) []), (eVp e_TSo) x.x_3, (V.int .u64) x.t_5, V.bool x.held_6, (V.own (.loc 30 0) [] 1 x.o_0.cursors.heads.n 0 x.o_0.cursors.heads.n), (V.int .i64) x.q_31, (V.int .i64) x.q_32, V.cons (V.cons ((V.int .u64) x.o_0.cursors.tail) (V.cons (V.lent (.loc 30 0) 35 1 x.o_0.cursors.heads.nil x.o_0.cursors.heads.n) (V.unit))) (V.cons (ebox_TSs x.o_0.s) (V.cons ((V.int .u64) x.o_0.most) (V.cons (V.bool x.o_0.closed) (V.unit)))), (V.arr 1 x.o_0.cursors.heads.n fun i => (V.int .u64) (x.o_0.cursors.heads.get i))]) fun l => ⟨(dVp d_TSo) (at_ l 1), dI (at_ l 2), dB (at_ l 3), dI (at_ l 5), dI (at_ l 6), { d_TRr (at_ l 7) with cursors.heads := ⟨(dLn (fd (fd (at_ l 7) 0) 1)).nil, (dLn (fd (fd (at_ l 7) 0) 1)).n, (dAr dI (at_ l 8)).get⟩ }⟩
abbrev w_f2_5 (x : X_f2_5) : TRr := (x.o_0)
abbrev w_f2_6 (x : X_f2_6) : TRr := (x.o_0)
abbrev w_f2_12 (x : X_f2_12) : TRr := (x.o_0)
noncomputable def tt_f2_12 (D_f2_6 : Dyn X_f2_6 RR_f2) (x : X_f2_12) : TT Tryz.prog RR_f2 :=
 (.jump S_f2_6 D_f2_6 (X_f2_6.mk x.x_3 x.t_5 x.held_6 x.q_31 (IntKind.i64.wrap (x.q_32 + 1)) x.o_0))
theorem sd_f2_12 (D_f2_6 : Dyn X_f2_6 RR_f2) (x : X_f2_12) : (tt_f2_12 D_f2_6 x).Sides :=
  TT.sJ
theorem roT_f2_12 (D_f2_6 : Dyn X_f2_6 RR_f2) (r_ring_Ring_stands_6 : ∀ x y, D_f2_6.rel x y → p_f2 y = w_f2_6 x) (x : X_f2_12) : TT.Ro p_f2 (w_f2_12 x) (tt_f2_12 D_f2_6 x) :=
  (TT.rJ (r_ring_Ring_stands_6 _))
noncomputable def D_f2_12 (D_f2_6 : Dyn X_f2_6 RR_f2) : Dyn X_f2_12 RR_f2 := .of (tt_f2_12 D_f2_6)
theorem ok_f2_12 (D_f2_6 : Dyn X_f2_6 RR_f2) (h_6 : LabOK J_f2 S_f2_6 D_f2_6) : LabOK J_f2 S_f2_12 (D_f2_12 D_f2_6) :=
  lbk mxk (lbc h_6 rfl lbn) 4000 (fun x => by kernel_rfl) (sd_f2_12 D_f2_6)
theorem ro_f2_12 (D_f2_6 : Dyn X_f2_6 RR_f2) (r_ring_Ring_stands_6 : ∀ x y, D_f2_6.rel x y → p_f2 y = w_f2_6 x) : ∀ x y, (D_f2_12 D_f2_6).rel x y → p_f2 y = w_f2_12 x :=
  roT_f2_12 D_f2_6 r_ring_Ring_stands_6
noncomputable def tt_f2_6 (D_f2_6 : Dyn X_f2_6 RR_f2) (x : X_f2_6) : TT Tryz.prog RR_f2 :=
 (.ite (ilt x.q_32 x.q_31)
 (.need (inb x.q_32 x.o_0.cursors.heads.n) <|
 (.need ((Nat.beq x.o_0.cursors.heads.n x.o_0.cursors.heads.n) && true) <|
 (.ite x.held_6
 (.need (ile 0 x.q_32) <|
 (.ite (ieq (Vm.bits .and IntKind.i64 (shr IntKind.i64 x.x_3.Left x.q_32) 1) 0)
 (.ite (ile (x.o_0.cursors.heads.get ((0 : Nat) + (Int.toNat x.q_32))) x.t_5)
 (.need ((true && true) && (Nat.beq x.o_0.cursors.heads.n x.o_0.cursors.heads.n)) <|
 (.ret (false, x.o_0)))
 (.ite (!x.held_6)
 (.ite (ile x.o_0.most x.t_5)
 (.ite (ile (x.o_0.cursors.heads.get ((0 : Nat) + (Int.toNat x.q_32))) (IntKind.u64.wrap (x.t_5 - x.o_0.most)))
 (.need ((true && true) && (Nat.beq x.o_0.cursors.heads.n x.o_0.cursors.heads.n)) <|
 (.ret (false, x.o_0)))
 (.jump S_f2_12 (D_f2_12 D_f2_6) (X_f2_12.mk x.x_3 x.t_5 x.held_6 x.q_31 x.q_32 x.o_0)))
 (.jump S_f2_12 (D_f2_12 D_f2_6) (X_f2_12.mk x.x_3 x.t_5 x.held_6 x.q_31 x.q_32 x.o_0)))
 (.jump S_f2_12 (D_f2_12 D_f2_6) (X_f2_12.mk x.x_3 x.t_5 x.held_6 x.q_31 x.q_32 x.o_0))))
 (.ite (!x.held_6)
 (.ite (ile x.o_0.most x.t_5)
 (.ite (ile (x.o_0.cursors.heads.get ((0 : Nat) + (Int.toNat x.q_32))) (IntKind.u64.wrap (x.t_5 - x.o_0.most)))
 (.need ((true && true) && (Nat.beq x.o_0.cursors.heads.n x.o_0.cursors.heads.n)) <|
 (.ret (false, x.o_0)))
 (.jump S_f2_12 (D_f2_12 D_f2_6) (X_f2_12.mk x.x_3 x.t_5 x.held_6 x.q_31 x.q_32 x.o_0)))
 (.jump S_f2_12 (D_f2_12 D_f2_6) (X_f2_12.mk x.x_3 x.t_5 x.held_6 x.q_31 x.q_32 x.o_0)))
 (.jump S_f2_12 (D_f2_12 D_f2_6) (X_f2_12.mk x.x_3 x.t_5 x.held_6 x.q_31 x.q_32 x.o_0)))))
 (.ite (!x.held_6)
 (.ite (ile x.o_0.most x.t_5)
 (.ite (ile (x.o_0.cursors.heads.get ((0 : Nat) + (Int.toNat x.q_32))) (IntKind.u64.wrap (x.t_5 - x.o_0.most)))
 (.need ((true && true) && (Nat.beq x.o_0.cursors.heads.n x.o_0.cursors.heads.n)) <|
 (.ret (false, x.o_0)))
 (.jump S_f2_12 (D_f2_12 D_f2_6) (X_f2_12.mk x.x_3 x.t_5 x.held_6 x.q_31 x.q_32 x.o_0)))
 (.jump S_f2_12 (D_f2_12 D_f2_6) (X_f2_12.mk x.x_3 x.t_5 x.held_6 x.q_31 x.q_32 x.o_0)))
 (.jump S_f2_12 (D_f2_12 D_f2_6) (X_f2_12.mk x.x_3 x.t_5 x.held_6 x.q_31 x.q_32 x.o_0))))))
 (.need ((true && true) && (Nat.beq x.o_0.cursors.heads.n x.o_0.cursors.heads.n)) <|
 (.ret (true, x.o_0))))
theorem sd_f2_6 (D_f2_6 : Dyn X_f2_6 RR_f2) (x : X_f2_6) : (tt_f2_6 D_f2_6 x).Sides :=
  (TT.sI (TT.sN (TT.sN (TT.sI (TT.sN (TT.sI (TT.sI (TT.sN TT.sR) (TT.sI (TT.sI (TT.sI (TT.sN TT.sR) TT.sJ) TT.sJ) TT.sJ)) (TT.sI (TT.sI (TT.sI (TT.sN TT.sR) TT.sJ) TT.sJ) TT.sJ))) (TT.sI (TT.sI (TT.sI (TT.sN TT.sR) TT.sJ) TT.sJ) TT.sJ)))) (TT.sN TT.sR))
theorem roT_f2_6 (D_f2_6 : Dyn X_f2_6 RR_f2) (r_ring_Ring_stands_6 : ∀ x y, D_f2_6.rel x y → p_f2 y = w_f2_6 x) (x : X_f2_6) : TT.Ro p_f2 (w_f2_6 x) (tt_f2_6 D_f2_6 x) :=
  (TT.rI (TT.rN (TT.rN (TT.rI (TT.rN (TT.rI (TT.rI (TT.rN (TT.rR rfl)) (TT.rI (TT.rI (TT.rI (TT.rN (TT.rR rfl)) (TT.rJ (ro_f2_12 D_f2_6 r_ring_Ring_stands_6 _))) (TT.rJ (ro_f2_12 D_f2_6 r_ring_Ring_stands_6 _))) (TT.rJ (ro_f2_12 D_f2_6 r_ring_Ring_stands_6 _)))) (TT.rI (TT.rI (TT.rI (TT.rN (TT.rR rfl)) (TT.rJ (ro_f2_12 D_f2_6 r_ring_Ring_stands_6 _))) (TT.rJ (ro_f2_12 D_f2_6 r_ring_Ring_stands_6 _))) (TT.rJ (ro_f2_12 D_f2_6 r_ring_Ring_stands_6 _))))) (TT.rI (TT.rI (TT.rI (TT.rN (TT.rR rfl)) (TT.rJ (ro_f2_12 D_f2_6 r_ring_Ring_stands_6 _))) (TT.rJ (ro_f2_12 D_f2_6 r_ring_Ring_stands_6 _))) (TT.rJ (ro_f2_12 D_f2_6 r_ring_Ring_stands_6 _)))))) (TT.rN (TT.rR rfl)))
noncomputable def D_f2_6 : Dyn X_f2_6 RR_f2 := Dyn.loop tt_f2_6
theorem ok_f2_6 : LabOK J_f2 S_f2_6 D_f2_6 :=
  loop_ok fun D_f2_6 h_6 => lbk mxk (lbc h_6 rfl (lbc (ok_f2_12 D_f2_6 h_6) rfl lbn)) 4000 (fun x => by kernel_rfl) (sd_f2_6 D_f2_6)
theorem ro_f2_6 : ∀ x y, D_f2_6.rel x y → p_f2 y = w_f2_6 x :=
  loop_ro fun D_f2_6 r_ring_Ring_stands_6 => roT_f2_6 D_f2_6 r_ring_Ring_stands_6
noncomputable def tt_f2_5 (x : X_f2_5) : TT Tryz.prog RR_f2 :=
 (.jump S_f2_6 D_f2_6 (X_f2_6.mk x.x_3 x.t_5 x.held_6 ((x.o_0.cursors.heads.n : Nat) : Int) 0 x.o_0))
theorem sd_f2_5 (x : X_f2_5) : (tt_f2_5 x).Sides :=
  TT.sJ
theorem roT_f2_5 (x : X_f2_5) : TT.Ro p_f2 (w_f2_5 x) (tt_f2_5 x) :=
  (TT.rJ (ro_f2_6 _))
noncomputable def D_f2_5 : Dyn X_f2_5 RR_f2 := .of tt_f2_5
theorem ok_f2_5 : LabOK J_f2 S_f2_5 D_f2_5 :=
  lbk mxk (lbc ok_f2_6 rfl lbn) 4000 (fun x => by kernel_rfl) sd_f2_5
theorem ro_f2_5 : ∀ x y, D_f2_5.rel x y → p_f2 y = w_f2_5 x :=
  roT_f2_5 
noncomputable def tt_f2 (x : X_f2) : TT Tryz.prog RR_f2 :=
 (.ite (ieq (Int.tmod x.fst.Stamp 2) 1)
 (.ite (ile x.snd.cursors.tail (IntKind.u64.wrap (Int.tdiv x.fst.Stamp 2)))
 (.ret (false, x.snd))
 (.jump S_f2_5 D_f2_5 (X_f2_5.mk x.fst (IntKind.u64.wrap (Int.tdiv x.fst.Stamp 2)) (ieq (Int.tmod x.fst.Stamp 2) 1) x.snd)))
 (.jump S_f2_5 D_f2_5 (X_f2_5.mk x.fst (IntKind.u64.wrap (Int.tdiv x.fst.Stamp 2)) (ieq (Int.tmod x.fst.Stamp 2) 1) x.snd)))
theorem sd_f2 (x : X_f2) : (tt_f2 x).Sides :=
  (TT.sI (TT.sI TT.sR TT.sJ) TT.sJ)
theorem roT_f2 (x : X_f2) : TT.Ro p_f2 (w_f2 x) (tt_f2 x) :=
  (TT.rI (TT.rI (TT.rR rfl) (TT.rJ (ro_f2_5 _))) (TT.rJ (ro_f2_5 _)))
noncomputable def D_f2 : Dyn X_f2 R_f2 := .ro (.of tt_f2) (fun y => (y.1)) (fun y x => (y, x.2)) fun x y h => congrArg (fun o => (y.1, o)) (roT_f2 x y h)
noncomputable def con_f2 : Con Tryz.prog :=
  mkConP 128 J_f2 S_f2 (.of tt_f2) D_f2 (fun y x => (y, x.2)) (fun _ _ h => h) (fun y => V.bool y) 2 1 [.any, .any] (by kernel_rfl) (by kernel_rfl) (by kernel_rfl) (lbk mxk (lbc ok_f2_6 rfl (lbc ok_f2_5 rfl lbn)) 4000 (fun x => by kernel_rfl) sd_f2) rfl rfl (fun _ => rfl) (by kernel_rfl) rfl (fun _ _ => rfl) (fun _ => rfl) (fun x => ⟨(nu_e_TRr : ∀ y, (e_TRr y).NoU) (x.2), trivial⟩)
abbrev X_f1n : Type := (Sl Int)
abbrev R_f1n : Type := (Sl Int)
noncomputable def J_f1n : Job Tryz.prog :=
  job Tryz.prog Tryz.f53 8 [(5, 1), (6, 1)] [] [] [.shut 2] [hosl_u64] [] [] R_f1n [] fun y => [eosl_u64 y]
noncomputable def S_f1n : LabS :=
  lab0 Tryz.f53 1 0 X_f1n (fun x => [esl_u64 x]) fun l => (dsl_u64 (at_ l 0))
noncomputable def tt_f1n (x : X_f1n) : TT Tryz.prog R_f1n :=
 (.ite x.nil
 (.ret (Sl.mk true 0 (fun _i1 => (0 : Int))))
 (.need (true && (room ((0 : Nat) + x.n) 8)) <|
 (.ret (Sl.mk (cond (Nat.beq x.n 0) false false) ((0 : Nat) + x.n) (fun i1 => (cond (Nat.blt i1 0) (0 : Int) (x.get (i1 - 0))))))))
theorem sd_f1n (x : X_f1n) : (tt_f1n x).Sides :=
  (TT.sI TT.sR (TT.sN TT.sR))
noncomputable def D_f1n : Dyn X_f1n R_f1n := .of tt_f1n
noncomputable def con_f1n : Con Tryz.prog :=
  mkCon 53 J_f1n S_f1n D_f1n D_f1n (fun _ _ h => h) 1 0 [hsl_u64] (by kernel_rfl) (by kernel_rfl) (by kernel_rfl) (lbk mxk lbn 4000 (fun x => by kernel_rfl) sd_f1n) rfl rfl (fun _ => rfl) (by kernel_rfl) rfl (fun _ => rfl) (fun x y _ => by kernel_rfl)
abbrev X_fb : Type := TRg × TRs
abbrev R_fb : Type := (Bx TRr) × Int
noncomputable def J_fb : Job Tryz.prog :=
  job Tryz.prog Tryz.f75 113 [(2, 3), (3, 3), (13, 1), (21, 1), (57, 1), (112, 1)] [(7, [.open_ 6]), (12, [.close (.loc 72 0)]), (14, [.close (.loc 72 0)]), (15, [.close (.loc 72 0)]), (16, [.close (.loc 72 0)]), (17, [.close (.loc 72 0)]), (18, [.close (.loc 72 0)]), (19, [.close (.loc 72 0)]), (20, [.close (.loc 72 0)])] [] [.close (.loc 72 0), .shut 4] [hbox_TRr, .any] [] [con_f29, con_f2, con_f1n, con_fq] R_fb [(9, [⟨.loc 72 0, .loc 6 1, [.fld 0 0, .fld 1 1], none, none⟩]), (13, [⟨.loc 72 0, .loc 6 1, [.fld 0 0, .fld 1 1], none, none⟩])] fun y => [V.tup (V.cons (ebox_TRr y.1) (V.cons ((V.int .i64) y.2) (V.unit)))]
noncomputable def S_fb : LabS :=
  lab0 Tryz.f75 2 0 X_fb (fun x => [e_TRg x.1, e_TRs x.2]) fun l => (d_TRg (at_ l 0), d_TRs (at_ l 1))
structure X_fb_7 where
  s_3 : TRs
  l_8 : (Bx TSs)
  n_6 : TRr
noncomputable def S_fb_7 : LabS :=
  labAt Tryz.f75 7 [(3, .any), (6, .any), (8, hbox_TSs)] [] [(.loc 6 1, sh_TRr)] X_fb_7 (fun x => [(eVp e_TRs) x.s_3, (V.ptr (.loc 6 1) []), ebox_TSs x.l_8, e_TRr x.n_6]) fun l => ⟨(dVp d_TRs) (at_ l 0), dbox_TSs (at_ l 2), d_TRr (at_ l 3)⟩
structure X_fb_9 where
  s_3 : TRs
  q_73 : Int
  q_74 : Int
  n_6 : TRr
noncomputable def S_fb_9 : LabS :=
  labAt Tryz.f75 9 [(3, .any), (6, .any), (72, .any), (73, .any), (74, .any)] [] [(.loc 6 1, sh_TRr), (.loc 72 0, .any)] X_fb_9 (fun x => [(eVp e_TRs) x.s_3, (V.ptr (.loc 6 1) []), (V.own (.loc 72 0) [] 1 x.n_6.cursors.heads.n 0 x.n_6.cursors.heads.n), (V.int .i64) x.q_73, (V.int .i64) x.q_74, V.cons (V.cons ((V.int .u64) x.n_6.cursors.tail) (V.cons (V.lent (.loc 72 0) 35 1 x.n_6.cursors.heads.nil x.n_6.cursors.heads.n) (V.unit))) (V.cons (ebox_TSs x.n_6.s) (V.cons ((V.int .u64) x.n_6.most) (V.cons (V.bool x.n_6.closed) (V.unit)))), (V.arr 1 x.n_6.cursors.heads.n fun i => (V.int .u64) (x.n_6.cursors.heads.get i))]) fun l => ⟨(dVp d_TRs) (at_ l 0), dI (at_ l 3), dI (at_ l 4), { d_TRr (at_ l 5) with cursors.heads := ⟨(dLn (fd (fd (at_ l 5) 0) 1)).nil, (dLn (fd (fd (at_ l 5) 0) 1)).n, (dAr dI (at_ l 6)).get⟩ }⟩
structure X_fb_13 where
  s_3 : TRs
  q_73 : Int
  q_74 : Int
  n_6 : TRr
noncomputable def S_fb_13 : LabS :=
  labAt Tryz.f75 13 [(3, .any), (6, .any), (72, .any), (73, .any), (74, .any)] [] [(.loc 6 1, sh_TRr), (.loc 72 0, .any)] X_fb_13 (fun x => [(eVp e_TRs) x.s_3, (V.ptr (.loc 6 1) []), (V.own (.loc 72 0) [] 1 x.n_6.cursors.heads.n 0 x.n_6.cursors.heads.n), (V.int .i64) x.q_73, (V.int .i64) x.q_74, V.cons (V.cons ((V.int .u64) x.n_6.cursors.tail) (V.cons (V.lent (.loc 72 0) 35 1 x.n_6.cursors.heads.nil x.n_6.cursors.heads.n) (V.unit))) (V.cons (ebox_TSs x.n_6.s) (V.cons ((V.int .u64) x.n_6.most) (V.cons (V.bool x.n_6.closed) (V.unit)))), (V.arr 1 x.n_6.cursors.heads.n fun i => (V.int .u64) (x.n_6.cursors.heads.get i))]) fun l => ⟨(dVp d_TRs) (at_ l 0), dI (at_ l 3), dI (at_ l 4), { d_TRr (at_ l 5) with cursors.heads := ⟨(dLn (fd (fd (at_ l 5) 0) 1)).nil, (dLn (fd (fd (at_ l 5) 0) 1)).n, (dAr dI (at_ l 6)).get⟩ }⟩
structure X_fb_14 where
  s_3 : TRs
  n_6 : TRr
noncomputable def S_fb_14 : LabS :=
  labAt Tryz.f75 14 [(3, .any), (6, .any)] [] [(.loc 6 1, sh_TRr)] X_fb_14 (fun x => [(eVp e_TRs) x.s_3, (V.ptr (.loc 6 1) []), e_TRr x.n_6]) fun l => ⟨(dVp d_TRs) (at_ l 0), d_TRr (at_ l 2)⟩
structure X_fb_15 where
  q_101 : (Sl TSo)
  q_102 : Int
  q_103 : Int
  n_6 : TRr
noncomputable def S_fb_15 : LabS :=
  labAt Tryz.f75 15 [(6, .any), (101, hsl_TSo), (102, .any), (103, .any)] [] [(.loc 6 1, sh_TRr)] X_fb_15 (fun x => [(V.ptr (.loc 6 1) []), esl_TSo x.q_101, (V.int .i64) x.q_102, (V.int .i64) x.q_103, e_TRr x.n_6]) fun l => ⟨dsl_TSo (at_ l 1), dI (at_ l 2), dI (at_ l 3), d_TRr (at_ l 4)⟩
noncomputable def tt_fb_15 (D_fb_15 : Dyn X_fb_15 R_fb) (x : X_fb_15) : TT Tryz.prog R_fb :=
 (.ite (ilt x.q_103 x.q_102)
 (.need (inb x.q_103 x.q_101.n) <|
 (.call con_f2 ((x.q_101.get (Int.toNat x.q_103)), x.n_6) fun (y2 : R_f2) =>
 (.ite (!y2)
 (.ret ((Bx.mk true (TRr.mk (TRc.mk 0 (Sl.mk true 0 (fun _i3 => (0 : Int)))) (Bx.mk true (TSs.mk (Sl.mk true 0 (fun _i3 => (TSo.mk 0 0 0))) 0)) 0 false)), 3))
 (.jump S_fb_15 D_fb_15 (X_fb_15.mk x.q_101 x.q_102 (IntKind.i64.wrap (x.q_103 + 1)) x.n_6)))))
 (.ret ((Bx.mk false x.n_6), 0)))
theorem sd_fb_15 (D_fb_15 : Dyn X_fb_15 R_fb) (x : X_fb_15) : (tt_fb_15 D_fb_15 x).Sides :=
  (TT.sI (TT.sN (TT.sC fun _ => (TT.sI TT.sR TT.sJ))) TT.sR)
noncomputable def D_fb_15 : Dyn X_fb_15 R_fb := Dyn.loop tt_fb_15
theorem ok_fb_15 : LabOK J_fb S_fb_15 D_fb_15 :=
  loop_ok fun D_fb_15 h_15 => lbk mxk (lbc h_15 rfl lbn) 4000 (fun x => by kernel_rfl) (sd_fb_15 D_fb_15)
noncomputable def tt_fb_14 (x : X_fb_14) : TT Tryz.prog R_fb :=
 (.jump S_fb_15 D_fb_15 (X_fb_15.mk x.s_3.Slots ((x.s_3.Slots.n : Nat) : Int) 0 x.n_6))
theorem sd_fb_14 (x : X_fb_14) : (tt_fb_14 x).Sides :=
  TT.sJ
noncomputable def D_fb_14 : Dyn X_fb_14 R_fb := .of tt_fb_14
theorem ok_fb_14 : LabOK J_fb S_fb_14 D_fb_14 :=
  lbk mxk (lbc ok_fb_15 rfl lbn) 4000 (fun x => by kernel_rfl) sd_fb_14
noncomputable def tt_fb_13 (D_fb_9 : Dyn X_fb_9 R_fb) (x : X_fb_13) : TT Tryz.prog R_fb :=
 (.jump S_fb_9 D_fb_9 (X_fb_9.mk x.s_3 x.q_73 (IntKind.i64.wrap (x.q_74 + 1)) x.n_6))
theorem sd_fb_13 (D_fb_9 : Dyn X_fb_9 R_fb) (x : X_fb_13) : (tt_fb_13 D_fb_9 x).Sides :=
  TT.sJ
noncomputable def D_fb_13 (D_fb_9 : Dyn X_fb_9 R_fb) : Dyn X_fb_13 R_fb := .of (tt_fb_13 D_fb_9)
theorem ok_fb_13 (D_fb_9 : Dyn X_fb_9 R_fb) (h_9 : LabOK J_fb S_fb_9 D_fb_9) : LabOK J_fb S_fb_13 (D_fb_13 D_fb_9) :=
  lbk mxk (lbc h_9 rfl (lbc ok_fb_15 rfl (lbc ok_fb_14 rfl lbn))) 4000 (fun x => by kernel_rfl) (sd_fb_13 D_fb_9)
noncomputable def tt_fb_9 (D_fb_9 : Dyn X_fb_9 R_fb) (x : X_fb_9) : TT Tryz.prog R_fb :=
 (.ite (ilt x.q_74 x.q_73)
 (.need (inb x.q_74 x.n_6.cursors.heads.n) <|
 (.need ((Nat.beq x.n_6.cursors.heads.n x.n_6.cursors.heads.n) && true) <|
 (.ite (ilt x.n_6.cursors.tail (x.n_6.cursors.heads.get ((0 : Nat) + (Int.toNat x.q_74))))
 (.need ((true && true) && (Nat.beq x.n_6.cursors.heads.n x.n_6.cursors.heads.n)) <|
 (.ret ((Bx.mk true (TRr.mk (TRc.mk 0 (Sl.mk true 0 (fun _i2 => (0 : Int)))) (Bx.mk true (TSs.mk (Sl.mk true 0 (fun _i2 => (TSo.mk 0 0 0))) 0)) 0 false)), 3)))
 (.ite (ilt x.n_6.most (IntKind.u64.wrap (x.n_6.cursors.tail - (x.n_6.cursors.heads.get ((0 : Nat) + (Int.toNat x.q_74))))))
 (.need ((true && true) && (Nat.beq x.n_6.cursors.heads.n x.n_6.cursors.heads.n)) <|
 (.ret ((Bx.mk true (TRr.mk (TRc.mk 0 (Sl.mk true 0 (fun _i2 => (0 : Int)))) (Bx.mk true (TSs.mk (Sl.mk true 0 (fun _i2 => (TSo.mk 0 0 0))) 0)) 0 false)), 3)))
 (.jump S_fb_13 (D_fb_13 D_fb_9) (X_fb_13.mk x.s_3 x.q_73 x.q_74 x.n_6))))))
 (.need ((true && true) && (Nat.beq x.n_6.cursors.heads.n x.n_6.cursors.heads.n)) <|
 (.jump S_fb_14 D_fb_14 (X_fb_14.mk x.s_3 x.n_6))))
theorem sd_fb_9 (D_fb_9 : Dyn X_fb_9 R_fb) (x : X_fb_9) : (tt_fb_9 D_fb_9 x).Sides :=
  (TT.sI (TT.sN (TT.sN (TT.sI (TT.sN TT.sR) (TT.sI (TT.sN TT.sR) TT.sJ)))) (TT.sN TT.sJ))
noncomputable def D_fb_9 : Dyn X_fb_9 R_fb := Dyn.loop tt_fb_9
theorem ok_fb_9 : LabOK J_fb S_fb_9 D_fb_9 :=
  loop_ok fun D_fb_9 h_9 => lbk mxk (lbc h_9 rfl (lbc ok_fb_15 rfl (lbc ok_fb_14 rfl (lbc (ok_fb_13 D_fb_9 h_9) rfl lbn)))) 4000 (fun x => by kernel_rfl) (sd_fb_9 D_fb_9)
noncomputable def tt_fb_7 (x : X_fb_7) : TT Tryz.prog R_fb :=
 (.call con_f1n x.s_3.Heads fun (y1 : R_f1n) =>
 (.jump S_fb_9 D_fb_9 (X_fb_9.mk x.s_3 ((y1.n : Nat) : Int) 0 (TRr.mk (TRc.mk x.s_3.Tail y1) x.l_8 x.n_6.most x.s_3.Closed))))
theorem sd_fb_7 (x : X_fb_7) : (tt_fb_7 x).Sides :=
  (TT.sC fun _ => TT.sJ)
noncomputable def D_fb_7 : Dyn X_fb_7 R_fb := .of tt_fb_7
theorem ok_fb_7 : LabOK J_fb S_fb_7 D_fb_7 :=
  lbk mxk (lbc ok_fb_15 rfl (lbc ok_fb_14 rfl (lbc ok_fb_9 rfl lbn))) 4000 (fun x => by kernel_rfl) sd_fb_7
noncomputable def tt_fb (x : X_fb) : TT Tryz.prog R_fb :=
 (.call con_f29 x.fst fun (y1 : R_f29) =>
 (.ite (!(ieq y1.snd 0))
 (.ret ((Bx.mk true (TRr.mk (TRc.mk 0 (Sl.mk true 0 (fun _i2 => (0 : Int)))) (Bx.mk true (TSs.mk (Sl.mk true 0 (fun _i2 => (TSo.mk 0 0 0))) 0)) 0 false)), y1.snd))
 (.call con_fq (x.fst.Cap, (x.fst.Readers, x.snd.Slots)) fun (y2 : R_fq) =>
 (.ite (!(ieq y2.snd 0))
 (.ret ((Bx.mk true (TRr.mk (TRc.mk 0 (Sl.mk true 0 (fun _i3 => (0 : Int)))) (Bx.mk true (TSs.mk (Sl.mk true 0 (fun _i3 => (TSo.mk 0 0 0))) 0)) 0 false)), 3))
 (.ite (!(ieq ((x.snd.Heads.n : Nat) : Int) x.fst.Readers))
 (.ret ((Bx.mk true (TRr.mk (TRc.mk 0 (Sl.mk true 0 (fun _i3 => (0 : Int)))) (Bx.mk true (TSs.mk (Sl.mk true 0 (fun _i3 => (TSo.mk 0 0 0))) 0)) 0 false)), 3))
 (.ite (ile 4611686018427387904 x.snd.Tail)
 (.ret ((Bx.mk true (TRr.mk (TRc.mk 0 (Sl.mk true 0 (fun _i3 => (0 : Int)))) (Bx.mk true (TSs.mk (Sl.mk true 0 (fun _i3 => (TSo.mk 0 0 0))) 0)) 0 false)), 3))
 (.need (!y1.fst.nil) <|
 (.jump S_fb_7 D_fb_7 (X_fb_7.mk x.snd y2.fst y1.fst.x)))))))))
theorem sd_fb (x : X_fb) : (tt_fb x).Sides :=
  (TT.sC fun _ => (TT.sI TT.sR (TT.sC fun _ => (TT.sI TT.sR (TT.sI TT.sR (TT.sI TT.sR (TT.sN TT.sJ)))))))
noncomputable def D_fb : Dyn X_fb R_fb := .of tt_fb
noncomputable def con_fb : Con Tryz.prog :=
  mkCon 75 J_fb S_fb D_fb D_fb (fun _ _ h => h) 2 0 [.any, sh_TRs] (by kernel_rfl) (by kernel_rfl) (by kernel_rfl) (lbk mxk (lbc ok_fb_15 rfl (lbc ok_fb_14 rfl (lbc ok_fb_9 rfl (lbc ok_fb_7 rfl lbn)))) 4000 (fun x => by kernel_rfl) sd_fb) rfl rfl (fun _ => rfl) (by kernel_rfl) rfl (fun _ => rfl) (fun x y _ => by kernel_rfl)
abbrev X_f21 : Type := Int × TFa
abbrev R_f21 : Type := TFa
noncomputable def J_f21 : Job Tryz.prog :=
  job Tryz.prog Tryz.f112 56 [(9, 1), (34, 1), (54, 1)] [(1, [.close (.loc 16 0), .close (.loc 13 0)]), (2, [.close (.loc 16 0), .close (.loc 13 0)]), (3, [.close (.loc 28 0), .close (.loc 25 0), .close (.loc 16 0), .close (.loc 13 0)]), (4, [.close (.loc 28 0), .close (.loc 25 0), .close (.loc 16 0), .close (.loc 13 0)]), (5, [.close (.loc 28 0), .close (.loc 25 0), .close (.loc 16 0), .close (.loc 13 0)]), (6, [.close (.loc 28 0), .close (.loc 25 0), .close (.loc 16 0), .close (.loc 13 0)])] [] [.close (.loc 52 0), .close (.loc 28 0), .close (.loc 25 0), .close (.loc 16 0), .close (.loc 13 0)] [] [sh_TFa] [con_fb, con_f2e, con_f18] R_f21 [] fun y => [V.tup (V.unit), e_TFa y]
noncomputable def S_f21 : LabS :=
  lab0 Tryz.f112 2 1 X_f21 (fun x => [(V.ptr (.par 0) []), (V.int .i64) x.1, e_TFa x.2]) fun l => (dI (at_ l 1), d_TFa (at_ l 2))
noncomputable def tt_f21 (x : X_f21) : TT Tryz.prog R_f21 :=
 (.need (inb x.fst x.snd.rings.n) <|
 (.need (((Nat.beq x.snd.rings.n x.snd.rings.n) && true) && (!(x.snd.rings.get ((0 : Nat) + (Int.toNat x.fst))).nil)) <|
 (.call con_f2e (x.snd.rings.get ((0 : Nat) + (Int.toNat x.fst))).x fun (y1 : R_f2e) =>
 (.need ((true && true) && ((Nat.beq x.snd.rings.n x.snd.rings.n) && (Nat.blt ((0 : Nat) + (Int.toNat x.fst)) x.snd.rings.n))) <|
 (.side ((fun v : Nat → V => v = v) (fun i2 => (cond (Nat.beq i2 ((0 : Nat) + (Int.toNat x.fst))) (V.ptr (Id.loc 16 0) List.nil) (V.obox (x.snd.rings.get i2).nil (e_TRr (x.snd.rings.get i2).x))))) <|
 (.need ((true && true) && (Nat.beq x.snd.rings.n x.snd.rings.n)) <|
 (.ite (!(ieq y1.snd.fst 10))
 (.ret (TFa.mk x.snd.p x.snd.threads (Sl.mk x.snd.rings.nil x.snd.rings.n (fun i2 => (Bx.mk (cond (Nat.beq i2 ((0 : Nat) + (Int.toNat x.fst))) false (x.snd.rings.get i2).nil) (TRr.mk (TRc.mk (cond (Nat.beq i2 ((0 : Nat) + (Int.toNat x.fst))) y1.snd.snd.cursors.tail (x.snd.rings.get i2).x.cursors.tail) (Sl.mk (cond (Nat.beq i2 ((0 : Nat) + (Int.toNat x.fst))) y1.snd.snd.cursors.heads.nil (x.snd.rings.get i2).x.cursors.heads.nil) (cond (Nat.beq i2 ((0 : Nat) + (Int.toNat x.fst))) y1.snd.snd.cursors.heads.n (x.snd.rings.get i2).x.cursors.heads.n) (fun i3 => (cond (Nat.beq i2 ((0 : Nat) + (Int.toNat x.fst))) (y1.snd.snd.cursors.heads.get i3) ((x.snd.rings.get i2).x.cursors.heads.get i3))))) (Bx.mk (cond (Nat.beq i2 ((0 : Nat) + (Int.toNat x.fst))) y1.snd.snd.s.nil (x.snd.rings.get i2).x.s.nil) (TSs.mk (Sl.mk (cond (Nat.beq i2 ((0 : Nat) + (Int.toNat x.fst))) y1.snd.snd.s.x.l.nil (x.snd.rings.get i2).x.s.x.l.nil) (cond (Nat.beq i2 ((0 : Nat) + (Int.toNat x.fst))) y1.snd.snd.s.x.l.n (x.snd.rings.get i2).x.s.x.l.n) (fun i3 => (TSo.mk (cond (Nat.beq i2 ((0 : Nat) + (Int.toNat x.fst))) (y1.snd.snd.s.x.l.get i3).Stamp ((x.snd.rings.get i2).x.s.x.l.get i3).Stamp) (cond (Nat.beq i2 ((0 : Nat) + (Int.toNat x.fst))) (y1.snd.snd.s.x.l.get i3).Value ((x.snd.rings.get i2).x.s.x.l.get i3).Value) (cond (Nat.beq i2 ((0 : Nat) + (Int.toNat x.fst))) (y1.snd.snd.s.x.l.get i3).Left ((x.snd.rings.get i2).x.s.x.l.get i3).Left)))) (cond (Nat.beq i2 ((0 : Nat) + (Int.toNat x.fst))) y1.snd.snd.s.x.readers (x.snd.rings.get i2).x.s.x.readers))) (cond (Nat.beq i2 ((0 : Nat) + (Int.toNat x.fst))) y1.snd.snd.most (x.snd.rings.get i2).x.most) (cond (Nat.beq i2 ((0 : Nat) + (Int.toNat x.fst))) y1.snd.snd.closed (x.snd.rings.get i2).x.closed))))) x.snd.now x.snd.reads x.snd.ended))
 (.need (inb x.fst x.snd.rings.n) <|
 (.need (((Nat.beq x.snd.rings.n x.snd.rings.n) && true) && (!(cond (Nat.beq ((0 : Nat) + (Int.toNat x.fst)) ((0 : Nat) + (Int.toNat x.fst))) false (x.snd.rings.get ((0 : Nat) + (Int.toNat x.fst))).nil))) <|
 (.call con_f18 (TRr.mk (TRc.mk (cond (Nat.beq ((0 : Nat) + (Int.toNat x.fst)) ((0 : Nat) + (Int.toNat x.fst))) y1.snd.snd.cursors.tail (x.snd.rings.get ((0 : Nat) + (Int.toNat x.fst))).x.cursors.tail) (Sl.mk (cond (Nat.beq ((0 : Nat) + (Int.toNat x.fst)) ((0 : Nat) + (Int.toNat x.fst))) y1.snd.snd.cursors.heads.nil (x.snd.rings.get ((0 : Nat) + (Int.toNat x.fst))).x.cursors.heads.nil) (cond (Nat.beq ((0 : Nat) + (Int.toNat x.fst)) ((0 : Nat) + (Int.toNat x.fst))) y1.snd.snd.cursors.heads.n (x.snd.rings.get ((0 : Nat) + (Int.toNat x.fst))).x.cursors.heads.n) (fun i2 => (cond (Nat.beq ((0 : Nat) + (Int.toNat x.fst)) ((0 : Nat) + (Int.toNat x.fst))) (y1.snd.snd.cursors.heads.get i2) ((x.snd.rings.get ((0 : Nat) + (Int.toNat x.fst))).x.cursors.heads.get i2))))) (Bx.mk (cond (Nat.beq ((0 : Nat) + (Int.toNat x.fst)) ((0 : Nat) + (Int.toNat x.fst))) y1.snd.snd.s.nil (x.snd.rings.get ((0 : Nat) + (Int.toNat x.fst))).x.s.nil) (TSs.mk (Sl.mk (cond (Nat.beq ((0 : Nat) + (Int.toNat x.fst)) ((0 : Nat) + (Int.toNat x.fst))) y1.snd.snd.s.x.l.nil (x.snd.rings.get ((0 : Nat) + (Int.toNat x.fst))).x.s.x.l.nil) (cond (Nat.beq ((0 : Nat) + (Int.toNat x.fst)) ((0 : Nat) + (Int.toNat x.fst))) y1.snd.snd.s.x.l.n (x.snd.rings.get ((0 : Nat) + (Int.toNat x.fst))).x.s.x.l.n) (fun i2 => (TSo.mk (cond (Nat.beq ((0 : Nat) + (Int.toNat x.fst)) ((0 : Nat) + (Int.toNat x.fst))) (y1.snd.snd.s.x.l.get i2).Stamp ((x.snd.rings.get ((0 : Nat) + (Int.toNat x.fst))).x.s.x.l.get i2).Stamp) (cond (Nat.beq ((0 : Nat) + (Int.toNat x.fst)) ((0 : Nat) + (Int.toNat x.fst))) (y1.snd.snd.s.x.l.get i2).Value ((x.snd.rings.get ((0 : Nat) + (Int.toNat x.fst))).x.s.x.l.get i2).Value) (cond (Nat.beq ((0 : Nat) + (Int.toNat x.fst)) ((0 : Nat) + (Int.toNat x.fst))) (y1.snd.snd.s.x.l.get i2).Left ((x.snd.rings.get ((0 : Nat) + (Int.toNat x.fst))).x.s.x.l.get i2).Left)))) (cond (Nat.beq ((0 : Nat) + (Int.toNat x.fst)) ((0 : Nat) + (Int.toNat x.fst))) y1.snd.snd.s.x.readers (x.snd.rings.get ((0 : Nat) + (Int.toNat x.fst))).x.s.x.readers))) (cond (Nat.beq ((0 : Nat) + (Int.toNat x.fst)) ((0 : Nat) + (Int.toNat x.fst))) y1.snd.snd.most (x.snd.rings.get ((0 : Nat) + (Int.toNat x.fst))).x.most) (cond (Nat.beq ((0 : Nat) + (Int.toNat x.fst)) ((0 : Nat) + (Int.toNat x.fst))) y1.snd.snd.closed (x.snd.rings.get ((0 : Nat) + (Int.toNat x.fst))).x.closed)) fun (y2 : R_f18) =>
 (.need ((true && true) && ((Nat.beq x.snd.rings.n x.snd.rings.n) && (Nat.blt ((0 : Nat) + (Int.toNat x.fst)) x.snd.rings.n))) <|
 (.side ((fun v : Nat → V => v = v) (fun i3 => (cond (Nat.beq i3 ((0 : Nat) + (Int.toNat x.fst))) (V.ptr (Id.loc 28 0) List.nil) (V.obox (cond (Nat.beq i3 ((0 : Nat) + (Int.toNat x.fst))) false (x.snd.rings.get i3).nil) (V.cons (V.cons (V.int IntKind.u64 (cond (Nat.beq i3 ((0 : Nat) + (Int.toNat x.fst))) y1.snd.snd.cursors.tail (x.snd.rings.get i3).x.cursors.tail)) (V.cons (V.osl 35 1 (cond (Nat.beq i3 ((0 : Nat) + (Int.toNat x.fst))) y1.snd.snd.cursors.heads.nil (x.snd.rings.get i3).x.cursors.heads.nil) (cond (Nat.beq i3 ((0 : Nat) + (Int.toNat x.fst))) y1.snd.snd.cursors.heads.n (x.snd.rings.get i3).x.cursors.heads.n) (fun i4 => (V.int IntKind.u64 (cond (Nat.beq i3 ((0 : Nat) + (Int.toNat x.fst))) (y1.snd.snd.cursors.heads.get i4) ((x.snd.rings.get i3).x.cursors.heads.get i4))))) V.unit)) (V.cons (V.obox (cond (Nat.beq i3 ((0 : Nat) + (Int.toNat x.fst))) y1.snd.snd.s.nil (x.snd.rings.get i3).x.s.nil) (V.cons (V.osl 150 3 (cond (Nat.beq i3 ((0 : Nat) + (Int.toNat x.fst))) y1.snd.snd.s.x.l.nil (x.snd.rings.get i3).x.s.x.l.nil) (cond (Nat.beq i3 ((0 : Nat) + (Int.toNat x.fst))) y1.snd.snd.s.x.l.n (x.snd.rings.get i3).x.s.x.l.n) (fun i4 => (V.cons (V.int IntKind.u64 (cond (Nat.beq i3 ((0 : Nat) + (Int.toNat x.fst))) (y1.snd.snd.s.x.l.get i4).Stamp ((x.snd.rings.get i3).x.s.x.l.get i4).Stamp)) (V.cons (V.int IntKind.u64 (cond (Nat.beq i3 ((0 : Nat) + (Int.toNat x.fst))) (y1.snd.snd.s.x.l.get i4).Value ((x.snd.rings.get i3).x.s.x.l.get i4).Value)) (V.cons (V.int IntKind.i64 (cond (Nat.beq i3 ((0 : Nat) + (Int.toNat x.fst))) (y1.snd.snd.s.x.l.get i4).Left ((x.snd.rings.get i3).x.s.x.l.get i4).Left)) V.unit))))) (V.cons (V.int IntKind.i64 (cond (Nat.beq i3 ((0 : Nat) + (Int.toNat x.fst))) y1.snd.snd.s.x.readers (x.snd.rings.get i3).x.s.x.readers)) V.unit))) (V.cons (V.int IntKind.u64 (cond (Nat.beq i3 ((0 : Nat) + (Int.toNat x.fst))) y1.snd.snd.most (x.snd.rings.get i3).x.most)) (V.cons (V.bool (cond (Nat.beq i3 ((0 : Nat) + (Int.toNat x.fst))) y1.snd.snd.closed (x.snd.rings.get i3).x.closed)) V.unit)))))))) <|
 (.need ((true && true) && (Nat.beq x.snd.rings.n x.snd.rings.n)) <|
 (.need (inb x.fst x.snd.p.Rings.n) <|
 (.call con_fb ((x.snd.p.Rings.get (Int.toNat x.fst)), (TRs.mk (IntKind.u64.wrap (y2.Tail + 1)) y2.Heads y2.Closed y2.Slots)) fun (y3 : R_fb) =>
 (.ite (ieq y3.snd 0)
 (.need (inb x.fst x.snd.rings.n) <|
 (.need ((Nat.beq x.snd.rings.n x.snd.rings.n) && true) <|
 (.need ((true && true) && (Nat.beq x.snd.rings.n x.snd.rings.n)) <|
 (.ret (TFa.mk x.snd.p x.snd.threads (Sl.mk x.snd.rings.nil x.snd.rings.n (fun i4 => (Bx.mk (cond (Nat.beq i4 ((0 : Nat) + (Int.toNat x.fst))) y3.fst.nil (cond (Nat.beq i4 ((0 : Nat) + (Int.toNat x.fst))) false (cond (Nat.beq i4 ((0 : Nat) + (Int.toNat x.fst))) false (x.snd.rings.get i4).nil))) (TRr.mk (TRc.mk (cond (Nat.beq i4 ((0 : Nat) + (Int.toNat x.fst))) y3.fst.x.cursors.tail (cond (Nat.beq i4 ((0 : Nat) + (Int.toNat x.fst))) (cond (Nat.beq ((0 : Nat) + (Int.toNat x.fst)) ((0 : Nat) + (Int.toNat x.fst))) y1.snd.snd.cursors.tail (x.snd.rings.get ((0 : Nat) + (Int.toNat x.fst))).x.cursors.tail) (cond (Nat.beq i4 ((0 : Nat) + (Int.toNat x.fst))) y1.snd.snd.cursors.tail (x.snd.rings.get i4).x.cursors.tail))) (Sl.mk (cond (Nat.beq i4 ((0 : Nat) + (Int.toNat x.fst))) y3.fst.x.cursors.heads.nil (cond (Nat.beq i4 ((0 : Nat) + (Int.toNat x.fst))) (cond (Nat.beq ((0 : Nat) + (Int.toNat x.fst)) ((0 : Nat) + (Int.toNat x.fst))) y1.snd.snd.cursors.heads.nil (x.snd.rings.get ((0 : Nat) + (Int.toNat x.fst))).x.cursors.heads.nil) (cond (Nat.beq i4 ((0 : Nat) + (Int.toNat x.fst))) y1.snd.snd.cursors.heads.nil (x.snd.rings.get i4).x.cursors.heads.nil))) (cond (Nat.beq i4 ((0 : Nat) + (Int.toNat x.fst))) y3.fst.x.cursors.heads.n (cond (Nat.beq i4 ((0 : Nat) + (Int.toNat x.fst))) (cond (Nat.beq ((0 : Nat) + (Int.toNat x.fst)) ((0 : Nat) + (Int.toNat x.fst))) y1.snd.snd.cursors.heads.n (x.snd.rings.get ((0 : Nat) + (Int.toNat x.fst))).x.cursors.heads.n) (cond (Nat.beq i4 ((0 : Nat) + (Int.toNat x.fst))) y1.snd.snd.cursors.heads.n (x.snd.rings.get i4).x.cursors.heads.n))) (fun i5 => (cond (Nat.beq i4 ((0 : Nat) + (Int.toNat x.fst))) (y3.fst.x.cursors.heads.get i5) (cond (Nat.beq i4 ((0 : Nat) + (Int.toNat x.fst))) (cond (Nat.beq ((0 : Nat) + (Int.toNat x.fst)) ((0 : Nat) + (Int.toNat x.fst))) (y1.snd.snd.cursors.heads.get i5) ((x.snd.rings.get ((0 : Nat) + (Int.toNat x.fst))).x.cursors.heads.get i5)) (cond (Nat.beq i4 ((0 : Nat) + (Int.toNat x.fst))) (y1.snd.snd.cursors.heads.get i5) ((x.snd.rings.get i4).x.cursors.heads.get i5))))))) (Bx.mk (cond (Nat.beq i4 ((0 : Nat) + (Int.toNat x.fst))) y3.fst.x.s.nil (cond (Nat.beq i4 ((0 : Nat) + (Int.toNat x.fst))) (cond (Nat.beq ((0 : Nat) + (Int.toNat x.fst)) ((0 : Nat) + (Int.toNat x.fst))) y1.snd.snd.s.nil (x.snd.rings.get ((0 : Nat) + (Int.toNat x.fst))).x.s.nil) (cond (Nat.beq i4 ((0 : Nat) + (Int.toNat x.fst))) y1.snd.snd.s.nil (x.snd.rings.get i4).x.s.nil))) (TSs.mk (Sl.mk (cond (Nat.beq i4 ((0 : Nat) + (Int.toNat x.fst))) y3.fst.x.s.x.l.nil (cond (Nat.beq i4 ((0 : Nat) + (Int.toNat x.fst))) (cond (Nat.beq ((0 : Nat) + (Int.toNat x.fst)) ((0 : Nat) + (Int.toNat x.fst))) y1.snd.snd.s.x.l.nil (x.snd.rings.get ((0 : Nat) + (Int.toNat x.fst))).x.s.x.l.nil) (cond (Nat.beq i4 ((0 : Nat) + (Int.toNat x.fst))) y1.snd.snd.s.x.l.nil (x.snd.rings.get i4).x.s.x.l.nil))) (cond (Nat.beq i4 ((0 : Nat) + (Int.toNat x.fst))) y3.fst.x.s.x.l.n (cond (Nat.beq i4 ((0 : Nat) + (Int.toNat x.fst))) (cond (Nat.beq ((0 : Nat) + (Int.toNat x.fst)) ((0 : Nat) + (Int.toNat x.fst))) y1.snd.snd.s.x.l.n (x.snd.rings.get ((0 : Nat) + (Int.toNat x.fst))).x.s.x.l.n) (cond (Nat.beq i4 ((0 : Nat) + (Int.toNat x.fst))) y1.snd.snd.s.x.l.n (x.snd.rings.get i4).x.s.x.l.n))) (fun i5 => (TSo.mk (cond (Nat.beq i4 ((0 : Nat) + (Int.toNat x.fst))) (y3.fst.x.s.x.l.get i5).Stamp (cond (Nat.beq i4 ((0 : Nat) + (Int.toNat x.fst))) (cond (Nat.beq ((0 : Nat) + (Int.toNat x.fst)) ((0 : Nat) + (Int.toNat x.fst))) (y1.snd.snd.s.x.l.get i5).Stamp ((x.snd.rings.get ((0 : Nat) + (Int.toNat x.fst))).x.s.x.l.get i5).Stamp) (cond (Nat.beq i4 ((0 : Nat) + (Int.toNat x.fst))) (y1.snd.snd.s.x.l.get i5).Stamp ((x.snd.rings.get i4).x.s.x.l.get i5).Stamp))) (cond (Nat.beq i4 ((0 : Nat) + (Int.toNat x.fst))) (y3.fst.x.s.x.l.get i5).Value (cond (Nat.beq i4 ((0 : Nat) + (Int.toNat x.fst))) (cond (Nat.beq ((0 : Nat) + (Int.toNat x.fst)) ((0 : Nat) + (Int.toNat x.fst))) (y1.snd.snd.s.x.l.get i5).Value ((x.snd.rings.get ((0 : Nat) + (Int.toNat x.fst))).x.s.x.l.get i5).Value) (cond (Nat.beq i4 ((0 : Nat) + (Int.toNat x.fst))) (y1.snd.snd.s.x.l.get i5).Value ((x.snd.rings.get i4).x.s.x.l.get i5).Value))) (cond (Nat.beq i4 ((0 : Nat) + (Int.toNat x.fst))) (y3.fst.x.s.x.l.get i5).Left (cond (Nat.beq i4 ((0 : Nat) + (Int.toNat x.fst))) (cond (Nat.beq ((0 : Nat) + (Int.toNat x.fst)) ((0 : Nat) + (Int.toNat x.fst))) (y1.snd.snd.s.x.l.get i5).Left ((x.snd.rings.get ((0 : Nat) + (Int.toNat x.fst))).x.s.x.l.get i5).Left) (cond (Nat.beq i4 ((0 : Nat) + (Int.toNat x.fst))) (y1.snd.snd.s.x.l.get i5).Left ((x.snd.rings.get i4).x.s.x.l.get i5).Left)))))) (cond (Nat.beq i4 ((0 : Nat) + (Int.toNat x.fst))) y3.fst.x.s.x.readers (cond (Nat.beq i4 ((0 : Nat) + (Int.toNat x.fst))) (cond (Nat.beq ((0 : Nat) + (Int.toNat x.fst)) ((0 : Nat) + (Int.toNat x.fst))) y1.snd.snd.s.x.readers (x.snd.rings.get ((0 : Nat) + (Int.toNat x.fst))).x.s.x.readers) (cond (Nat.beq i4 ((0 : Nat) + (Int.toNat x.fst))) y1.snd.snd.s.x.readers (x.snd.rings.get i4).x.s.x.readers))))) (cond (Nat.beq i4 ((0 : Nat) + (Int.toNat x.fst))) y3.fst.x.most (cond (Nat.beq i4 ((0 : Nat) + (Int.toNat x.fst))) (cond (Nat.beq ((0 : Nat) + (Int.toNat x.fst)) ((0 : Nat) + (Int.toNat x.fst))) y1.snd.snd.most (x.snd.rings.get ((0 : Nat) + (Int.toNat x.fst))).x.most) (cond (Nat.beq i4 ((0 : Nat) + (Int.toNat x.fst))) y1.snd.snd.most (x.snd.rings.get i4).x.most))) (cond (Nat.beq i4 ((0 : Nat) + (Int.toNat x.fst))) y3.fst.x.closed (cond (Nat.beq i4 ((0 : Nat) + (Int.toNat x.fst))) (cond (Nat.beq ((0 : Nat) + (Int.toNat x.fst)) ((0 : Nat) + (Int.toNat x.fst))) y1.snd.snd.closed (x.snd.rings.get ((0 : Nat) + (Int.toNat x.fst))).x.closed) (cond (Nat.beq i4 ((0 : Nat) + (Int.toNat x.fst))) y1.snd.snd.closed (x.snd.rings.get i4).x.closed))))))) x.snd.now x.snd.reads x.snd.ended)))))
 (.ret (TFa.mk x.snd.p x.snd.threads (Sl.mk x.snd.rings.nil x.snd.rings.n (fun i4 => (Bx.mk (cond (Nat.beq i4 ((0 : Nat) + (Int.toNat x.fst))) false (cond (Nat.beq i4 ((0 : Nat) + (Int.toNat x.fst))) false (x.snd.rings.get i4).nil)) (TRr.mk (TRc.mk (cond (Nat.beq i4 ((0 : Nat) + (Int.toNat x.fst))) (cond (Nat.beq ((0 : Nat) + (Int.toNat x.fst)) ((0 : Nat) + (Int.toNat x.fst))) y1.snd.snd.cursors.tail (x.snd.rings.get ((0 : Nat) + (Int.toNat x.fst))).x.cursors.tail) (cond (Nat.beq i4 ((0 : Nat) + (Int.toNat x.fst))) y1.snd.snd.cursors.tail (x.snd.rings.get i4).x.cursors.tail)) (Sl.mk (cond (Nat.beq i4 ((0 : Nat) + (Int.toNat x.fst))) (cond (Nat.beq ((0 : Nat) + (Int.toNat x.fst)) ((0 : Nat) + (Int.toNat x.fst))) y1.snd.snd.cursors.heads.nil (x.snd.rings.get ((0 : Nat) + (Int.toNat x.fst))).x.cursors.heads.nil) (cond (Nat.beq i4 ((0 : Nat) + (Int.toNat x.fst))) y1.snd.snd.cursors.heads.nil (x.snd.rings.get i4).x.cursors.heads.nil)) (cond (Nat.beq i4 ((0 : Nat) + (Int.toNat x.fst))) (cond (Nat.beq ((0 : Nat) + (Int.toNat x.fst)) ((0 : Nat) + (Int.toNat x.fst))) y1.snd.snd.cursors.heads.n (x.snd.rings.get ((0 : Nat) + (Int.toNat x.fst))).x.cursors.heads.n) (cond (Nat.beq i4 ((0 : Nat) + (Int.toNat x.fst))) y1.snd.snd.cursors.heads.n (x.snd.rings.get i4).x.cursors.heads.n)) (fun i5 => (cond (Nat.beq i4 ((0 : Nat) + (Int.toNat x.fst))) (cond (Nat.beq ((0 : Nat) + (Int.toNat x.fst)) ((0 : Nat) + (Int.toNat x.fst))) (y1.snd.snd.cursors.heads.get i5) ((x.snd.rings.get ((0 : Nat) + (Int.toNat x.fst))).x.cursors.heads.get i5)) (cond (Nat.beq i4 ((0 : Nat) + (Int.toNat x.fst))) (y1.snd.snd.cursors.heads.get i5) ((x.snd.rings.get i4).x.cursors.heads.get i5)))))) (Bx.mk (cond (Nat.beq i4 ((0 : Nat) + (Int.toNat x.fst))) (cond (Nat.beq ((0 : Nat) + (Int.toNat x.fst)) ((0 : Nat) + (Int.toNat x.fst))) y1.snd.snd.s.nil (x.snd.rings.get ((0 : Nat) + (Int.toNat x.fst))).x.s.nil) (cond (Nat.beq i4 ((0 : Nat) + (Int.toNat x.fst))) y1.snd.snd.s.nil (x.snd.rings.get i4).x.s.nil)) (TSs.mk (Sl.mk (cond (Nat.beq i4 ((0 : Nat) + (Int.toNat x.fst))) (cond (Nat.beq ((0 : Nat) + (Int.toNat x.fst)) ((0 : Nat) + (Int.toNat x.fst))) y1.snd.snd.s.x.l.nil (x.snd.rings.get ((0 : Nat) + (Int.toNat x.fst))).x.s.x.l.nil) (cond (Nat.beq i4 ((0 : Nat) + (Int.toNat x.fst))) y1.snd.snd.s.x.l.nil (x.snd.rings.get i4).x.s.x.l.nil)) (cond (Nat.beq i4 ((0 : Nat) + (Int.toNat x.fst))) (cond (Nat.beq ((0 : Nat) + (Int.toNat x.fst)) ((0 : Nat) + (Int.toNat x.fst))) y1.snd.snd.s.x.l.n (x.snd.rings.get ((0 : Nat) + (Int.toNat x.fst))).x.s.x.l.n) (cond (Nat.beq i4 ((0 : Nat) + (Int.toNat x.fst))) y1.snd.snd.s.x.l.n (x.snd.rings.get i4).x.s.x.l.n)) (fun i5 => (TSo.mk (cond (Nat.beq i4 ((0 : Nat) + (Int.toNat x.fst))) (cond (Nat.beq ((0 : Nat) + (Int.toNat x.fst)) ((0 : Nat) + (Int.toNat x.fst))) (y1.snd.snd.s.x.l.get i5).Stamp ((x.snd.rings.get ((0 : Nat) + (Int.toNat x.fst))).x.s.x.l.get i5).Stamp) (cond (Nat.beq i4 ((0 : Nat) + (Int.toNat x.fst))) (y1.snd.snd.s.x.l.get i5).Stamp ((x.snd.rings.get i4).x.s.x.l.get i5).Stamp)) (cond (Nat.beq i4 ((0 : Nat) + (Int.toNat x.fst))) (cond (Nat.beq ((0 : Nat) + (Int.toNat x.fst)) ((0 : Nat) + (Int.toNat x.fst))) (y1.snd.snd.s.x.l.get i5).Value ((x.snd.rings.get ((0 : Nat) + (Int.toNat x.fst))).x.s.x.l.get i5).Value) (cond (Nat.beq i4 ((0 : Nat) + (Int.toNat x.fst))) (y1.snd.snd.s.x.l.get i5).Value ((x.snd.rings.get i4).x.s.x.l.get i5).Value)) (cond (Nat.beq i4 ((0 : Nat) + (Int.toNat x.fst))) (cond (Nat.beq ((0 : Nat) + (Int.toNat x.fst)) ((0 : Nat) + (Int.toNat x.fst))) (y1.snd.snd.s.x.l.get i5).Left ((x.snd.rings.get ((0 : Nat) + (Int.toNat x.fst))).x.s.x.l.get i5).Left) (cond (Nat.beq i4 ((0 : Nat) + (Int.toNat x.fst))) (y1.snd.snd.s.x.l.get i5).Left ((x.snd.rings.get i4).x.s.x.l.get i5).Left))))) (cond (Nat.beq i4 ((0 : Nat) + (Int.toNat x.fst))) (cond (Nat.beq ((0 : Nat) + (Int.toNat x.fst)) ((0 : Nat) + (Int.toNat x.fst))) y1.snd.snd.s.x.readers (x.snd.rings.get ((0 : Nat) + (Int.toNat x.fst))).x.s.x.readers) (cond (Nat.beq i4 ((0 : Nat) + (Int.toNat x.fst))) y1.snd.snd.s.x.readers (x.snd.rings.get i4).x.s.x.readers)))) (cond (Nat.beq i4 ((0 : Nat) + (Int.toNat x.fst))) (cond (Nat.beq ((0 : Nat) + (Int.toNat x.fst)) ((0 : Nat) + (Int.toNat x.fst))) y1.snd.snd.most (x.snd.rings.get ((0 : Nat) + (Int.toNat x.fst))).x.most) (cond (Nat.beq i4 ((0 : Nat) + (Int.toNat x.fst))) y1.snd.snd.most (x.snd.rings.get i4).x.most)) (cond (Nat.beq i4 ((0 : Nat) + (Int.toNat x.fst))) (cond (Nat.beq ((0 : Nat) + (Int.toNat x.fst)) ((0 : Nat) + (Int.toNat x.fst))) y1.snd.snd.closed (x.snd.rings.get ((0 : Nat) + (Int.toNat x.fst))).x.closed) (cond (Nat.beq i4 ((0 : Nat) + (Int.toNat x.fst))) y1.snd.snd.closed (x.snd.rings.get i4).x.closed)))))) x.snd.now x.snd.reads x.snd.ended))))))))))))))))))
theorem sd_f21 (x : X_f21) : (tt_f21 x).Sides :=
  (TT.sN (TT.sN (TT.sC fun _ => (TT.sN (TT.sS rfl (TT.sN (TT.sI TT.sR (TT.sN (TT.sN (TT.sC fun _ => (TT.sN (TT.sS rfl (TT.sN (TT.sN (TT.sC fun _ => (TT.sI (TT.sN (TT.sN (TT.sN TT.sR))) TT.sR))))))))))))))))
noncomputable def D_f21 : Dyn X_f21 R_f21 := .of tt_f21
noncomputable def con_f21 : Con Tryz.prog :=
  mkCon 112 J_f21 S_f21 D_f21 D_f21 (fun _ _ h => h) 2 1 [.any, .any] (by kernel_rfl) (by kernel_rfl) (by kernel_rfl) (lbk mxk lbn 4000 (fun x => by kernel_rfl) sd_f21) rfl rfl (fun _ => rfl) (by kernel_rfl) rfl (fun _ => rfl) (fun x y _ => by kernel_rfl)
abbrev X_f2f : Type := Int × Int × TSs
abbrev R_f2f : Type := Int × TSs
noncomputable def J_f2f : Job Tryz.prog :=
  job Tryz.prog Tryz.f159 43 [] [(8, [.close (.loc 14 0)]), (10, [.close (.loc 14 0)]), (11, [.close (.loc 14 0)])] [(5, [.opn (.par 0) [.fld 0 0] 14])] [.close (.loc 14 0)] [.any] [sh_TSs] [con_fo, con_f2b, con_f2n] R_f2f [(0, [⟨.loc 14 0, .par 0, [.fld 0 0], none, none⟩])] fun y => [(V.int .i64) y.1, e_TSs y.2]
noncomputable def S_f2f : LabS :=
  lab0 Tryz.f159 3 1 X_f2f (fun x => [(V.ptr (.par 0) []), (V.int .u64) x.1, (V.int .u64) x.2.1, e_TSs x.2.2]) fun l => (dI (at_ l 1), dI (at_ l 2), d_TSs (at_ l 3))
noncomputable def tt_f2f (x : X_f2f) : TT Tryz.prog R_f2f :=
 (.ite (ile 4611686018427387904 x.fst)
 (.ret (1, x.snd.snd))
 (.call con_fo (x.fst, ((TSs_L0.mk (Ln.mk x.snd.snd.l.nil x.snd.snd.l.n) x.snd.snd.readers), (Ar.mk x.snd.snd.l.n x.snd.snd.l.get))) fun (y1 : R_fo) =>
 (.need ((Nat.beq x.snd.snd.l.n y1.snd) && true) <|
 (.call con_f2b x.fst fun (y2 : R_f2b) =>
 (.ite (ilt (x.snd.snd.l.get y1.fst).Stamp y2)
 (.need ((true && true) && (Nat.beq x.snd.snd.l.n x.snd.snd.l.n)) <|
 (.ret (8, x.snd.snd)))
 (.need ((Nat.beq x.snd.snd.l.n y1.snd) && true) <|
 (.call con_f2b x.fst fun (y3 : R_f2b) =>
 (.ite (ilt y3 (x.snd.snd.l.get y1.fst).Stamp)
 (.need ((true && true) && (Nat.beq x.snd.snd.l.n x.snd.snd.l.n)) <|
 (.ret (11, x.snd.snd)))
 (.call con_f2n x.fst fun (y4 : R_f2n) =>
 (.need (ile 0 x.snd.snd.readers) <|
 (.need ((Nat.beq x.snd.snd.l.n y1.snd) && true) <|
 (.need ((true && true) && (Nat.beq x.snd.snd.l.n x.snd.snd.l.n)) <|
 (.ret (0, (TSs.mk (Sl.mk x.snd.snd.l.nil x.snd.snd.l.n (fun i5 => (TSo.mk (cond (Nat.beq i5 y1.fst) y4 (x.snd.snd.l.get i5).Stamp) (cond (Nat.beq i5 y1.fst) x.snd.fst (x.snd.snd.l.get i5).Value) (cond (Nat.beq i5 y1.fst) (IntKind.i64.wrap ((shl IntKind.i64 1 x.snd.snd.readers) - 1)) (x.snd.snd.l.get i5).Left)))) x.snd.snd.readers)))))))))))))))
theorem sd_f2f (x : X_f2f) : (tt_f2f x).Sides :=
  (TT.sI TT.sR (TT.sC fun _ => (TT.sN (TT.sC fun _ => (TT.sI (TT.sN TT.sR) (TT.sN (TT.sC fun _ => (TT.sI (TT.sN TT.sR) (TT.sC fun _ => (TT.sN (TT.sN (TT.sN TT.sR))))))))))))
noncomputable def D_f2f : Dyn X_f2f R_f2f := .of tt_f2f
noncomputable def con_f2f : Con Tryz.prog :=
  mkCon 159 J_f2f S_f2f D_f2f D_f2f (fun _ _ h => h) 3 1 [.any, .any, .any] (by kernel_rfl) (by kernel_rfl) (by kernel_rfl) (lbk mxk lbn 4000 (fun x => by kernel_rfl) sd_f2f) rfl rfl (fun _ => rfl) (by kernel_rfl) rfl (fun _ => rfl) (fun x y _ => by kernel_rfl)
abbrev X_f27 : Type := Int × Int × TRr
abbrev R_f27 : Type := Int × TRr
noncomputable def J_f27 : Job Tryz.prog :=
  job Tryz.prog Tryz.f113 25 [] [] [] [.close (.loc 21 0)] [.any] [sh_TRr] [con_f2f] R_f27 [] fun y => [(V.int .i64) y.1, e_TRr y.2]
noncomputable def S_f27 : LabS :=
  lab0 Tryz.f113 3 1 X_f27 (fun x => [(V.ptr (.par 0) []), (V.int .u64) x.1, (V.int .u64) x.2.1, e_TRr x.2.2]) fun l => (dI (at_ l 1), dI (at_ l 2), d_TRr (at_ l 3))
noncomputable def tt_f27 (x : X_f27) : TT Tryz.prog R_f27 :=
 (.ite (ile x.snd.snd.cursors.tail x.fst)
 (.ret (11, x.snd.snd))
 (.need (true && (!x.snd.snd.s.nil)) <|
 (.call con_f2f (x.fst, (x.snd.fst, x.snd.snd.s.x)) fun (y1 : R_f2f) =>
 (.ret (y1.fst, (TRr.mk x.snd.snd.cursors (Bx.mk false y1.snd) x.snd.snd.most x.snd.snd.closed))))))
theorem sd_f27 (x : X_f27) : (tt_f27 x).Sides :=
  (TT.sI TT.sR (TT.sN (TT.sC fun _ => TT.sR)))
noncomputable def D_f27 : Dyn X_f27 R_f27 := .of tt_f27
noncomputable def con_f27 : Con Tryz.prog :=
  mkCon 113 J_f27 S_f27 D_f27 D_f27 (fun _ _ h => h) 3 1 [.any, .any, .any] (by kernel_rfl) (by kernel_rfl) (by kernel_rfl) (lbk mxk lbn 4000 (fun x => by kernel_rfl) sd_f27) rfl rfl (fun _ => rfl) (by kernel_rfl) rfl (fun _ => rfl) (fun x y _ => by kernel_rfl)
abbrev X_f13 : Type := Int × TRr
abbrev R_f13 : Type := Int × Int × TRr
noncomputable def J_f13 : Job Tryz.prog :=
  job Tryz.prog Tryz.f114 49 [] [(10, [.close (.loc 34 0)])] [] [.close (.loc 44 0), .close (.loc 34 0)] [.any, .any] [sh_TRr] [con_f15, con_fr] R_f13 [] fun y => [V.tup (V.cons ((V.int .u64) y.1) (V.cons ((V.int .i64) y.2.1) (V.unit))), e_TRr y.2.2]
noncomputable def S_f13 : LabS :=
  lab0 Tryz.f114 2 1 X_f13 (fun x => [(V.ptr (.par 0) []), (V.int .i64) x.1, e_TRr x.2]) fun l => (dI (at_ l 1), d_TRr (at_ l 2))
structure X_f13_9 where
  j_1 : Int
  o_0 : TRr
noncomputable def S_f13_9 : LabS :=
  labAt Tryz.f114 9 [(0, .any), (1, .any)] [sh_TRr] [] X_f13_9 (fun x => [(V.ptr (.par 0) []), (V.int .i64) x.j_1, e_TRr x.o_0]) fun l => ⟨dI (at_ l 1), d_TRr (at_ l 2)⟩
noncomputable def tt_f13_9 (x : X_f13_9) : TT Tryz.prog R_f13 :=
 (.need (inb x.j_1 x.o_0.cursors.heads.n) <|
 (.need ((Nat.beq x.o_0.cursors.heads.n x.o_0.cursors.heads.n) && true) <|
 (.need (inb x.j_1 x.o_0.cursors.heads.n) <|
 (.need ((Nat.beq x.o_0.cursors.heads.n x.o_0.cursors.heads.n) && true) <|
 (.need ((true && true) && (Nat.beq x.o_0.cursors.heads.n x.o_0.cursors.heads.n)) <|
 (.need (inb x.j_1 x.o_0.cursors.heads.n) <|
 (.need ((Nat.beq x.o_0.cursors.heads.n x.o_0.cursors.heads.n) && true) <|
 (.need ((true && true) && (Nat.beq x.o_0.cursors.heads.n x.o_0.cursors.heads.n)) <|
 (.ret ((IntKind.u64.wrap ((cond (Nat.beq ((0 : Nat) + (Int.toNat x.j_1)) ((0 : Nat) + (Int.toNat x.j_1))) (IntKind.u64.wrap ((x.o_0.cursors.heads.get ((0 : Nat) + (Int.toNat x.j_1))) + 1)) (x.o_0.cursors.heads.get ((0 : Nat) + (Int.toNat x.j_1)))) - 1)), (0, (TRr.mk (TRc.mk x.o_0.cursors.tail (Sl.mk x.o_0.cursors.heads.nil x.o_0.cursors.heads.n (fun i1 => (cond (Nat.beq i1 ((0 : Nat) + (Int.toNat x.j_1))) (IntKind.u64.wrap ((x.o_0.cursors.heads.get ((0 : Nat) + (Int.toNat x.j_1))) + 1)) (x.o_0.cursors.heads.get i1))))) x.o_0.s x.o_0.most x.o_0.closed))))))))))))
theorem sd_f13_9 (x : X_f13_9) : (tt_f13_9 x).Sides :=
  (TT.sN (TT.sN (TT.sN (TT.sN (TT.sN (TT.sN (TT.sN (TT.sN TT.sR))))))))
noncomputable def D_f13_9 : Dyn X_f13_9 R_f13 := .of tt_f13_9
theorem ok_f13_9 : LabOK J_f13 S_f13_9 D_f13_9 :=
  lbk mxk lbn 4000 (fun x => by kernel_rfl) sd_f13_9
noncomputable def tt_f13 (x : X_f13) : TT Tryz.prog R_f13 :=
 (.call con_fr (x.fst, x.snd.cursors) fun (y1 : R_fr) =>
 (.ite (!y1)
 (.ret (0, (1, x.snd)))
 (.call con_f15 x fun (y2 : R_f15) =>
 (.ite y2
 (.ite x.snd.closed
 (.ret (0, (10, x.snd)))
 (.call con_f15 x fun (y3 : R_f15) =>
 (.ite y3
 (.ret (0, (9, x.snd)))
 (.jump S_f13_9 D_f13_9 (X_f13_9.mk x.fst x.snd)))))
 (.call con_f15 x fun (y3 : R_f15) =>
 (.ite y3
 (.ret (0, (9, x.snd)))
 (.jump S_f13_9 D_f13_9 (X_f13_9.mk x.fst x.snd))))))))
theorem sd_f13 (x : X_f13) : (tt_f13 x).Sides :=
  (TT.sC fun _ => (TT.sI TT.sR (TT.sC fun _ => (TT.sI (TT.sI TT.sR (TT.sC fun _ => (TT.sI TT.sR TT.sJ))) (TT.sC fun _ => (TT.sI TT.sR TT.sJ))))))
noncomputable def D_f13 : Dyn X_f13 R_f13 := .of tt_f13
noncomputable def con_f13 : Con Tryz.prog :=
  mkCon 114 J_f13 S_f13 D_f13 D_f13 (fun _ _ h => h) 2 1 [.any, .any] (by kernel_rfl) (by kernel_rfl) (by kernel_rfl) (lbk mxk (lbc ok_f13_9 rfl lbn) 4000 (fun x => by kernel_rfl) sd_f13) rfl rfl (fun _ => rfl) (by kernel_rfl) rfl (fun _ => rfl) (fun x y _ => by kernel_rfl)
abbrev X_f2g : Type := Int × Int × TSs
abbrev R_f2g : Type := Int × Int × TSs
noncomputable def J_f2g : Job Tryz.prog :=
  job Tryz.prog Tryz.f160 52 [] [(9, [.close (.loc 44 0), .close (.loc 20 0)])] [(4, [.opn (.par 0) [.fld 0 0] 20])] [.close (.loc 44 0), .close (.loc 20 0)] [.any, .any] [sh_TSs] [con_fk, con_fo, con_f2b] R_f2g [(0, [⟨.loc 20 0, .par 0, [.fld 0 0], none, none⟩])] fun y => [V.tup (V.cons ((V.int .u64) y.1) (V.cons ((V.int .i64) y.2.1) (V.unit))), e_TSs y.2.2]
noncomputable def S_f2g : LabS :=
  lab0 Tryz.f160 3 1 X_f2g (fun x => [(V.ptr (.par 0) []), (V.int .i64) x.1, (V.int .u64) x.2.1, e_TSs x.2.2]) fun l => (dI (at_ l 1), dI (at_ l 2), d_TSs (at_ l 3))
noncomputable def tt_f2g (x : X_f2g) : TT Tryz.prog R_f2g :=
 (.call con_fk x fun (y1 : R_fk) =>
 (.ite (!(ieq y1 0))
 (.ret (0, (y1, x.snd.snd)))
 (.call con_fo (x.snd.fst, ((TSs_L0.mk (Ln.mk x.snd.snd.l.nil x.snd.snd.l.n) x.snd.snd.readers), (Ar.mk x.snd.snd.l.n x.snd.snd.l.get))) fun (y2 : R_fo) =>
 (.need ((Nat.beq x.snd.snd.l.n y2.snd) && true) <|
 (.need ((Nat.beq x.snd.snd.l.n y2.snd) && true) <|
 (.need (ile 0 x.fst) <|
 (.need ((Nat.beq x.snd.snd.l.n y2.snd) && true) <|
 (.need ((Nat.beq x.snd.snd.l.n y2.snd) && true) <|
 (.ite (ieq (cond (Nat.beq y2.fst y2.fst) (Vm.bits .andNot IntKind.i64 (x.snd.snd.l.get y2.fst).Left (shl IntKind.i64 1 x.fst)) (x.snd.snd.l.get y2.fst).Left) 0)
 (.call con_f2b (IntKind.u64.wrap (x.snd.fst + (IntKind.u64.wrap ((x.snd.snd.l.n : Nat) : Int)))) fun (y3 : R_f2b) =>
 (.need ((Nat.beq x.snd.snd.l.n y2.snd) && true) <|
 (.need ((true && true) && (Nat.beq x.snd.snd.l.n x.snd.snd.l.n)) <|
 (.ret ((x.snd.snd.l.get y2.fst).Value, (0, (TSs.mk (Sl.mk x.snd.snd.l.nil x.snd.snd.l.n (fun i4 => (TSo.mk (cond (Nat.beq i4 y2.fst) y3 (cond (Nat.beq i4 y2.fst) (x.snd.snd.l.get y2.fst).Stamp (x.snd.snd.l.get i4).Stamp)) (cond (Nat.beq i4 y2.fst) (0 : Int) (cond (Nat.beq i4 y2.fst) (x.snd.snd.l.get y2.fst).Value (x.snd.snd.l.get i4).Value)) (cond (Nat.beq i4 y2.fst) (0 : Int) (cond (Nat.beq i4 y2.fst) (Vm.bits .andNot IntKind.i64 (x.snd.snd.l.get y2.fst).Left (shl IntKind.i64 1 x.fst)) (x.snd.snd.l.get i4).Left))))) x.snd.snd.readers)))))))
 (.need ((true && true) && (Nat.beq x.snd.snd.l.n x.snd.snd.l.n)) <|
 (.ret ((x.snd.snd.l.get y2.fst).Value, (0, (TSs.mk (Sl.mk x.snd.snd.l.nil x.snd.snd.l.n (fun i3 => (TSo.mk (cond (Nat.beq i3 y2.fst) (x.snd.snd.l.get y2.fst).Stamp (x.snd.snd.l.get i3).Stamp) (cond (Nat.beq i3 y2.fst) (x.snd.snd.l.get y2.fst).Value (x.snd.snd.l.get i3).Value) (cond (Nat.beq i3 y2.fst) (Vm.bits .andNot IntKind.i64 (x.snd.snd.l.get y2.fst).Left (shl IntKind.i64 1 x.fst)) (x.snd.snd.l.get i3).Left)))) x.snd.snd.readers))))))))))))))
theorem sd_f2g (x : X_f2g) : (tt_f2g x).Sides :=
  (TT.sC fun _ => (TT.sI TT.sR (TT.sC fun _ => (TT.sN (TT.sN (TT.sN (TT.sN (TT.sN (TT.sI (TT.sC fun _ => (TT.sN (TT.sN TT.sR))) (TT.sN TT.sR))))))))))
noncomputable def D_f2g : Dyn X_f2g R_f2g := .of tt_f2g
noncomputable def con_f2g : Con Tryz.prog :=
  mkCon 160 J_f2g S_f2g D_f2g D_f2g (fun _ _ h => h) 3 1 [.any, .any, .any] (by kernel_rfl) (by kernel_rfl) (by kernel_rfl) (lbk mxk lbn 4000 (fun x => by kernel_rfl) sd_f2g) rfl rfl (fun _ => rfl) (by kernel_rfl) rfl (fun _ => rfl) (fun x y _ => by kernel_rfl)
abbrev X_f28 : Type := Int × Int × TRr
abbrev R_f28 : Type := Int × Int × TRr
noncomputable def J_f28 : Job Tryz.prog :=
  job Tryz.prog Tryz.f115 38 [] [(6, [.close (.loc 24 0)]), (7, [.close (.loc 24 0)])] [] [.close (.loc 32 0), .close (.loc 24 0)] [.any, .any] [sh_TRr] [con_fr, con_f2g] R_f28 [] fun y => [V.tup (V.cons ((V.int .u64) y.1) (V.cons ((V.int .i64) y.2.1) (V.unit))), e_TRr y.2.2]
noncomputable def S_f28 : LabS :=
  lab0 Tryz.f115 3 1 X_f28 (fun x => [(V.ptr (.par 0) []), (V.int .i64) x.1, (V.int .u64) x.2.1, e_TRr x.2.2]) fun l => (dI (at_ l 1), dI (at_ l 2), d_TRr (at_ l 3))
noncomputable def tt_f28 (x : X_f28) : TT Tryz.prog R_f28 :=
 (.call con_fr (x.fst, x.snd.snd.cursors) fun (y1 : R_fr) =>
 (.ite (!y1)
 (.ret (0, (1, x.snd.snd)))
 (.need (inb x.fst x.snd.snd.cursors.heads.n) <|
 (.need ((Nat.beq x.snd.snd.cursors.heads.n x.snd.snd.cursors.heads.n) && true) <|
 (.ite (ile (x.snd.snd.cursors.heads.get ((0 : Nat) + (Int.toNat x.fst))) x.snd.fst)
 (.need ((true && true) && (Nat.beq x.snd.snd.cursors.heads.n x.snd.snd.cursors.heads.n)) <|
 (.ret (0, (11, x.snd.snd))))
 (.need ((true && true) && (Nat.beq x.snd.snd.cursors.heads.n x.snd.snd.cursors.heads.n)) <|
 (.need (true && (!x.snd.snd.s.nil)) <|
 (.call con_f2g (x.fst, (x.snd.fst, x.snd.snd.s.x)) fun (y2 : R_f2g) =>
 (.ret (y2.fst, (y2.snd.fst, (TRr.mk x.snd.snd.cursors (Bx.mk false y2.snd.snd) x.snd.snd.most x.snd.snd.closed))))))))))))
theorem sd_f28 (x : X_f28) : (tt_f28 x).Sides :=
  (TT.sC fun _ => (TT.sI TT.sR (TT.sN (TT.sN (TT.sI (TT.sN TT.sR) (TT.sN (TT.sN (TT.sC fun _ => TT.sR))))))))
noncomputable def D_f28 : Dyn X_f28 R_f28 := .of tt_f28
noncomputable def con_f28 : Con Tryz.prog :=
  mkCon 115 J_f28 S_f28 D_f28 D_f28 (fun _ _ h => h) 3 1 [.any, .any, .any] (by kernel_rfl) (by kernel_rfl) (by kernel_rfl) (lbk mxk lbn 4000 (fun x => by kernel_rfl) sd_f28) rfl rfl (fun _ => rfl) (by kernel_rfl) rfl (fun _ => rfl) (fun x y _ => by kernel_rfl)
abbrev X_f2h : Type := TRr
abbrev R_f2h : Type := Int × TRr
noncomputable def J_f2h : Job Tryz.prog :=
  job Tryz.prog Tryz.f35 8 [] [] [] [] [.any] [sh_TRr] [] R_f2h [] fun y => [(V.int .i64) y.1, e_TRr y.2]
noncomputable def S_f2h : LabS :=
  lab0 Tryz.f35 1 1 X_f2h (fun x => [(V.ptr (.par 0) []), e_TRr x]) fun l => (d_TRr (at_ l 1))
noncomputable def tt_f2h (x : X_f2h) : TT Tryz.prog R_f2h :=
 (.ret (0, (TRr.mk x.cursors x.s x.most true)))
theorem sd_f2h (x : X_f2h) : (tt_f2h x).Sides :=
  TT.sR
noncomputable def D_f2h : Dyn X_f2h R_f2h := .of tt_f2h
noncomputable def con_f2h : Con Tryz.prog :=
  mkCon 35 J_f2h S_f2h D_f2h D_f2h (fun _ _ h => h) 1 1 [.any] (by kernel_rfl) (by kernel_rfl) (by kernel_rfl) (lbk mxk lbn 4000 (fun x => by kernel_rfl) sd_f2h) rfl rfl (fun _ => rfl) (by kernel_rfl) rfl (fun _ => rfl) (fun x y _ => by kernel_rfl)
abbrev X_fd : Type := TEv × TFa
abbrev R_fd : Type := TFa
noncomputable def J_fd : Job Tryz.prog :=
  job Tryz.prog Tryz.f66 131 [(3, 3), (48, 1), (101, 1)] [(8, [.close (.loc 27 0), .close (.loc 23 0)]), (9, [.close (.loc 27 0), .close (.loc 23 0)]), (10, [.close (.loc 42 0), .close (.loc 38 0), .close (.loc 27 0), .close (.loc 23 0)]), (11, [.close (.loc 42 0), .close (.loc 38 0), .close (.loc 27 0), .close (.loc 23 0)]), (12, [.close (.loc 56 0), .close (.loc 52 0), .close (.loc 42 0), .close (.loc 38 0), .close (.loc 27 0), .close (.loc 23 0)]), (13, [.close (.loc 56 0), .close (.loc 52 0), .close (.loc 42 0), .close (.loc 38 0), .close (.loc 27 0), .close (.loc 23 0)]), (14, [.close (.loc 73 0), .close (.loc 69 0), .close (.loc 56 0), .close (.loc 52 0), .close (.loc 42 0), .close (.loc 38 0), .close (.loc 27 0), .close (.loc 23 0)]), (15, [.close (.loc 73 0), .close (.loc 69 0), .close (.loc 56 0), .close (.loc 52 0), .close (.loc 42 0), .close (.loc 38 0), .close (.loc 27 0), .close (.loc 23 0)]), (16, [.close (.loc 73 0), .close (.loc 69 0), .close (.loc 56 0), .close (.loc 52 0), .close (.loc 42 0), .close (.loc 38 0), .close (.loc 27 0), .close (.loc 23 0)]), (17, [.close (.loc 73 0), .close (.loc 69 0), .close (.loc 56 0), .close (.loc 52 0), .close (.loc 42 0), .close (.loc 38 0), .close (.loc 27 0), .close (.loc 23 0)]), (18, [.close (.loc 73 0), .close (.loc 69 0), .close (.loc 56 0), .close (.loc 52 0), .close (.loc 42 0), .close (.loc 38 0), .close (.loc 27 0), .close (.loc 23 0)]), (19, [.close (.loc 73 0), .close (.loc 69 0), .close (.loc 56 0), .close (.loc 52 0), .close (.loc 42 0), .close (.loc 38 0), .close (.loc 27 0), .close (.loc 23 0)]), (20, [.close (.loc 73 0), .close (.loc 69 0), .close (.loc 56 0), .close (.loc 52 0), .close (.loc 42 0), .close (.loc 38 0), .close (.loc 27 0), .close (.loc 23 0)])] [(7, [.opn (.par 0) [.fld 2 3] 23]), (9, [.opn (.par 0) [.fld 2 3] 38]), (11, [.opn (.par 0) [.fld 2 3] 52]), (13, [.opn (.par 0) [.fld 2 3] 69]), (20, [.opn (.par 0) [.fld 1 2] 105, .opn (.par 0) [.fld 1 2] 120])] [.close (.loc 120 0), .close (.loc 105 0), .close (.loc 73 0), .close (.loc 69 0), .close (.loc 56 0), .close (.loc 52 0), .close (.loc 42 0), .close (.loc 38 0), .close (.loc 27 0), .close (.loc 23 0)] [] [sh_TFa] [con_fz, con_f21, con_f2h, con_f27, con_f28, con_f13, con_f1z] R_fd [(0, [⟨.loc 23 0, .par 0, [.fld 2 3], none, none⟩, ⟨.loc 38 0, .par 0, [.fld 2 3], none, none⟩, ⟨.loc 52 0, .par 0, [.fld 2 3], none, none⟩, ⟨.loc 69 0, .par 0, [.fld 2 3], none, none⟩, ⟨.loc 105 0, .par 0, [.fld 1 2], none, none⟩, ⟨.loc 120 0, .par 0, [.fld 1 2], none, none⟩]), (20, [⟨.loc 23 0, .par 0, [.fld 2 3], none, none⟩, ⟨.loc 38 0, .par 0, [.fld 2 3], none, none⟩, ⟨.loc 52 0, .par 0, [.fld 2 3], none, none⟩, ⟨.loc 69 0, .par 0, [.fld 2 3], none, none⟩, ⟨.loc 105 0, .par 0, [.fld 1 2], none, none⟩, ⟨.loc 120 0, .par 0, [.fld 1 2], none, none⟩])] fun y => [V.tup (V.unit), e_TFa y]
noncomputable def S_fd : LabS :=
  lab0 Tryz.f66 2 1 X_fd (fun x => [(V.ptr (.par 0) []), e_TEv x.1, e_TFa x.2]) fun l => (d_TEv (at_ l 1), d_TFa (at_ l 2))
structure X_fd_20 where
  e_3 : TEv
  v_5 : Int
  o_0 : TFa
noncomputable def S_fd_20 : LabS :=
  labAt Tryz.f66 20 [(0, .any), (3, .any), (5, .any)] [sh_TFa] [] X_fd_20 (fun x => [(V.ptr (.par 0) []), (eVp e_TEv) x.e_3, (V.int .u64) x.v_5, e_TFa x.o_0]) fun l => ⟨(dVp d_TEv) (at_ l 1), dI (at_ l 2), d_TFa (at_ l 3)⟩
noncomputable def tt_fd_20 (x : X_fd_20) : TT Tryz.prog R_fd :=
 (.need (inb x.e_3.Thread x.o_0.p.Threads.n) <|
 (.need (inb x.e_3.Thread x.o_0.threads.n) <|
 (.need ((Nat.beq x.o_0.threads.n x.o_0.threads.n) && true) <|
 (.call con_f1z ((x.o_0.p.Threads.get (Int.toNat x.e_3.Thread)), ((x.o_0.threads.get ((0 : Nat) + (Int.toNat x.e_3.Thread))), (x.e_3, x.v_5))) fun (y1 : R_f1z) =>
 (.need (inb x.e_3.Thread x.o_0.threads.n) <|
 (.need ((Nat.beq x.o_0.threads.n x.o_0.threads.n) && true) <|
 (.need ((true && true) && (Nat.beq x.o_0.threads.n x.o_0.threads.n)) <|
 (.ret (TFa.mk x.o_0.p (Sl.mk x.o_0.threads.nil x.o_0.threads.n (fun i2 => (TTh.mk (cond (Nat.beq i2 ((0 : Nat) + (Int.toNat x.e_3.Thread))) y1.fst.At (x.o_0.threads.get i2).At) (cond (Nat.beq i2 ((0 : Nat) + (Int.toNat x.e_3.Thread))) y1.fst.Phase (x.o_0.threads.get i2).Phase) (cond (Nat.beq i2 ((0 : Nat) + (Int.toNat x.e_3.Thread))) y1.fst.Ring (x.o_0.threads.get i2).Ring) (cond (Nat.beq i2 ((0 : Nat) + (Int.toNat x.e_3.Thread))) y1.fst.Status (x.o_0.threads.get i2).Status) (cond (Nat.beq i2 ((0 : Nat) + (Int.toNat x.e_3.Thread))) y1.fst.Ticket (x.o_0.threads.get i2).Ticket) (fun i3 => (cond (Nat.beq i2 ((0 : Nat) + (Int.toNat x.e_3.Thread))) (y1.fst.Regs i3) ((x.o_0.threads.get i2).Regs i3))) (Sl.mk (cond (Nat.beq i2 ((0 : Nat) + (Int.toNat x.e_3.Thread))) y1.fst.Seen.nil (x.o_0.threads.get i2).Seen.nil) (cond (Nat.beq i2 ((0 : Nat) + (Int.toNat x.e_3.Thread))) y1.fst.Seen.n (x.o_0.threads.get i2).Seen.n) (fun i3 => (cond (Nat.beq i2 ((0 : Nat) + (Int.toNat x.e_3.Thread))) (y1.fst.Seen.get i3) ((x.o_0.threads.get i2).Seen.get i3))))))) x.o_0.rings x.o_0.now x.o_0.reads x.o_0.ended)))))))))
theorem sd_fd_20 (x : X_fd_20) : (tt_fd_20 x).Sides :=
  (TT.sN (TT.sN (TT.sN (TT.sC fun _ => (TT.sN (TT.sN (TT.sN TT.sR)))))))
noncomputable def D_fd_20 : Dyn X_fd_20 R_fd := .of tt_fd_20
theorem ok_fd_20 : LabOK J_fd S_fd_20 D_fd_20 :=
  lbk mxk lbn 4000 (fun x => by kernel_rfl) sd_fd_20
noncomputable def tt_fd (x : X_fd) : TT Tryz.prog R_fd :=
 (.call con_fz (x.fst.Thread, x.snd) fun (y1 : R_fz) =>
 (.ite (ieq x.fst.Kind 1)
 (.call con_f21 (x.fst.Ring, x.snd) fun (y2 : R_f21) =>
 (.jump S_fd_20 D_fd_20 (X_fd_20.mk x.fst 0 y2)))
 (.ite (ieq x.fst.Kind 2)
 (.need (inb x.fst.Ring x.snd.rings.n) <|
 (.need (((Nat.beq x.snd.rings.n x.snd.rings.n) && true) && (!(x.snd.rings.get ((0 : Nat) + (Int.toNat x.fst.Ring))).nil)) <|
 (.call con_f27 (x.fst.Ticket, (y1.Value, (x.snd.rings.get ((0 : Nat) + (Int.toNat x.fst.Ring))).x)) fun (y2 : R_f27) =>
 (.need ((true && true) && ((Nat.beq x.snd.rings.n x.snd.rings.n) && (Nat.blt ((0 : Nat) + (Int.toNat x.fst.Ring)) x.snd.rings.n))) <|
 (.side ((fun v : Nat → V => v = v) (fun i3 => (cond (Nat.beq i3 ((0 : Nat) + (Int.toNat x.fst.Ring))) (V.ptr (Id.loc 27 0) List.nil) (V.obox (x.snd.rings.get i3).nil (e_TRr (x.snd.rings.get i3).x))))) <|
 (.need ((true && true) && (Nat.beq x.snd.rings.n x.snd.rings.n)) <|
 (.jump S_fd_20 D_fd_20 (X_fd_20.mk x.fst 0 (TFa.mk x.snd.p x.snd.threads (Sl.mk x.snd.rings.nil x.snd.rings.n (fun i3 => (Bx.mk (cond (Nat.beq i3 ((0 : Nat) + (Int.toNat x.fst.Ring))) false (x.snd.rings.get i3).nil) (TRr.mk (TRc.mk (cond (Nat.beq i3 ((0 : Nat) + (Int.toNat x.fst.Ring))) y2.snd.cursors.tail (x.snd.rings.get i3).x.cursors.tail) (Sl.mk (cond (Nat.beq i3 ((0 : Nat) + (Int.toNat x.fst.Ring))) y2.snd.cursors.heads.nil (x.snd.rings.get i3).x.cursors.heads.nil) (cond (Nat.beq i3 ((0 : Nat) + (Int.toNat x.fst.Ring))) y2.snd.cursors.heads.n (x.snd.rings.get i3).x.cursors.heads.n) (fun i4 => (cond (Nat.beq i3 ((0 : Nat) + (Int.toNat x.fst.Ring))) (y2.snd.cursors.heads.get i4) ((x.snd.rings.get i3).x.cursors.heads.get i4))))) (Bx.mk (cond (Nat.beq i3 ((0 : Nat) + (Int.toNat x.fst.Ring))) y2.snd.s.nil (x.snd.rings.get i3).x.s.nil) (TSs.mk (Sl.mk (cond (Nat.beq i3 ((0 : Nat) + (Int.toNat x.fst.Ring))) y2.snd.s.x.l.nil (x.snd.rings.get i3).x.s.x.l.nil) (cond (Nat.beq i3 ((0 : Nat) + (Int.toNat x.fst.Ring))) y2.snd.s.x.l.n (x.snd.rings.get i3).x.s.x.l.n) (fun i4 => (TSo.mk (cond (Nat.beq i3 ((0 : Nat) + (Int.toNat x.fst.Ring))) (y2.snd.s.x.l.get i4).Stamp ((x.snd.rings.get i3).x.s.x.l.get i4).Stamp) (cond (Nat.beq i3 ((0 : Nat) + (Int.toNat x.fst.Ring))) (y2.snd.s.x.l.get i4).Value ((x.snd.rings.get i3).x.s.x.l.get i4).Value) (cond (Nat.beq i3 ((0 : Nat) + (Int.toNat x.fst.Ring))) (y2.snd.s.x.l.get i4).Left ((x.snd.rings.get i3).x.s.x.l.get i4).Left)))) (cond (Nat.beq i3 ((0 : Nat) + (Int.toNat x.fst.Ring))) y2.snd.s.x.readers (x.snd.rings.get i3).x.s.x.readers))) (cond (Nat.beq i3 ((0 : Nat) + (Int.toNat x.fst.Ring))) y2.snd.most (x.snd.rings.get i3).x.most) (cond (Nat.beq i3 ((0 : Nat) + (Int.toNat x.fst.Ring))) y2.snd.closed (x.snd.rings.get i3).x.closed))))) x.snd.now x.snd.reads x.snd.ended)))))))))
 (.ite (ieq x.fst.Kind 3)
 (.need (inb x.fst.Ring x.snd.rings.n) <|
 (.need (((Nat.beq x.snd.rings.n x.snd.rings.n) && true) && (!(x.snd.rings.get ((0 : Nat) + (Int.toNat x.fst.Ring))).nil)) <|
 (.call con_f13 (y1.Reader, (x.snd.rings.get ((0 : Nat) + (Int.toNat x.fst.Ring))).x) fun (y2 : R_f13) =>
 (.need ((true && true) && ((Nat.beq x.snd.rings.n x.snd.rings.n) && (Nat.blt ((0 : Nat) + (Int.toNat x.fst.Ring)) x.snd.rings.n))) <|
 (.side ((fun v : Nat → V => v = v) (fun i3 => (cond (Nat.beq i3 ((0 : Nat) + (Int.toNat x.fst.Ring))) (V.ptr (Id.loc 42 0) List.nil) (V.obox (x.snd.rings.get i3).nil (e_TRr (x.snd.rings.get i3).x))))) <|
 (.need ((true && true) && (Nat.beq x.snd.rings.n x.snd.rings.n)) <|
 (.jump S_fd_20 D_fd_20 (X_fd_20.mk x.fst 0 (TFa.mk x.snd.p x.snd.threads (Sl.mk x.snd.rings.nil x.snd.rings.n (fun i3 => (Bx.mk (cond (Nat.beq i3 ((0 : Nat) + (Int.toNat x.fst.Ring))) false (x.snd.rings.get i3).nil) (TRr.mk (TRc.mk (cond (Nat.beq i3 ((0 : Nat) + (Int.toNat x.fst.Ring))) y2.snd.snd.cursors.tail (x.snd.rings.get i3).x.cursors.tail) (Sl.mk (cond (Nat.beq i3 ((0 : Nat) + (Int.toNat x.fst.Ring))) y2.snd.snd.cursors.heads.nil (x.snd.rings.get i3).x.cursors.heads.nil) (cond (Nat.beq i3 ((0 : Nat) + (Int.toNat x.fst.Ring))) y2.snd.snd.cursors.heads.n (x.snd.rings.get i3).x.cursors.heads.n) (fun i4 => (cond (Nat.beq i3 ((0 : Nat) + (Int.toNat x.fst.Ring))) (y2.snd.snd.cursors.heads.get i4) ((x.snd.rings.get i3).x.cursors.heads.get i4))))) (Bx.mk (cond (Nat.beq i3 ((0 : Nat) + (Int.toNat x.fst.Ring))) y2.snd.snd.s.nil (x.snd.rings.get i3).x.s.nil) (TSs.mk (Sl.mk (cond (Nat.beq i3 ((0 : Nat) + (Int.toNat x.fst.Ring))) y2.snd.snd.s.x.l.nil (x.snd.rings.get i3).x.s.x.l.nil) (cond (Nat.beq i3 ((0 : Nat) + (Int.toNat x.fst.Ring))) y2.snd.snd.s.x.l.n (x.snd.rings.get i3).x.s.x.l.n) (fun i4 => (TSo.mk (cond (Nat.beq i3 ((0 : Nat) + (Int.toNat x.fst.Ring))) (y2.snd.snd.s.x.l.get i4).Stamp ((x.snd.rings.get i3).x.s.x.l.get i4).Stamp) (cond (Nat.beq i3 ((0 : Nat) + (Int.toNat x.fst.Ring))) (y2.snd.snd.s.x.l.get i4).Value ((x.snd.rings.get i3).x.s.x.l.get i4).Value) (cond (Nat.beq i3 ((0 : Nat) + (Int.toNat x.fst.Ring))) (y2.snd.snd.s.x.l.get i4).Left ((x.snd.rings.get i3).x.s.x.l.get i4).Left)))) (cond (Nat.beq i3 ((0 : Nat) + (Int.toNat x.fst.Ring))) y2.snd.snd.s.x.readers (x.snd.rings.get i3).x.s.x.readers))) (cond (Nat.beq i3 ((0 : Nat) + (Int.toNat x.fst.Ring))) y2.snd.snd.most (x.snd.rings.get i3).x.most) (cond (Nat.beq i3 ((0 : Nat) + (Int.toNat x.fst.Ring))) y2.snd.snd.closed (x.snd.rings.get i3).x.closed))))) x.snd.now x.snd.reads x.snd.ended)))))))))
 (.ite (ieq x.fst.Kind 4)
 (.need (inb x.fst.Ring x.snd.rings.n) <|
 (.need (((Nat.beq x.snd.rings.n x.snd.rings.n) && true) && (!(x.snd.rings.get ((0 : Nat) + (Int.toNat x.fst.Ring))).nil)) <|
 (.call con_f28 (y1.Reader, (x.fst.Ticket, (x.snd.rings.get ((0 : Nat) + (Int.toNat x.fst.Ring))).x)) fun (y2 : R_f28) =>
 (.need ((true && true) && ((Nat.beq x.snd.rings.n x.snd.rings.n) && (Nat.blt ((0 : Nat) + (Int.toNat x.fst.Ring)) x.snd.rings.n))) <|
 (.side ((fun v : Nat → V => v = v) (fun i3 => (cond (Nat.beq i3 ((0 : Nat) + (Int.toNat x.fst.Ring))) (V.ptr (Id.loc 56 0) List.nil) (V.obox (x.snd.rings.get i3).nil (e_TRr (x.snd.rings.get i3).x))))) <|
 (.need ((true && true) && (Nat.beq x.snd.rings.n x.snd.rings.n)) <|
 (.jump S_fd_20 D_fd_20 (X_fd_20.mk x.fst y2.fst (TFa.mk x.snd.p x.snd.threads (Sl.mk x.snd.rings.nil x.snd.rings.n (fun i3 => (Bx.mk (cond (Nat.beq i3 ((0 : Nat) + (Int.toNat x.fst.Ring))) false (x.snd.rings.get i3).nil) (TRr.mk (TRc.mk (cond (Nat.beq i3 ((0 : Nat) + (Int.toNat x.fst.Ring))) y2.snd.snd.cursors.tail (x.snd.rings.get i3).x.cursors.tail) (Sl.mk (cond (Nat.beq i3 ((0 : Nat) + (Int.toNat x.fst.Ring))) y2.snd.snd.cursors.heads.nil (x.snd.rings.get i3).x.cursors.heads.nil) (cond (Nat.beq i3 ((0 : Nat) + (Int.toNat x.fst.Ring))) y2.snd.snd.cursors.heads.n (x.snd.rings.get i3).x.cursors.heads.n) (fun i4 => (cond (Nat.beq i3 ((0 : Nat) + (Int.toNat x.fst.Ring))) (y2.snd.snd.cursors.heads.get i4) ((x.snd.rings.get i3).x.cursors.heads.get i4))))) (Bx.mk (cond (Nat.beq i3 ((0 : Nat) + (Int.toNat x.fst.Ring))) y2.snd.snd.s.nil (x.snd.rings.get i3).x.s.nil) (TSs.mk (Sl.mk (cond (Nat.beq i3 ((0 : Nat) + (Int.toNat x.fst.Ring))) y2.snd.snd.s.x.l.nil (x.snd.rings.get i3).x.s.x.l.nil) (cond (Nat.beq i3 ((0 : Nat) + (Int.toNat x.fst.Ring))) y2.snd.snd.s.x.l.n (x.snd.rings.get i3).x.s.x.l.n) (fun i4 => (TSo.mk (cond (Nat.beq i3 ((0 : Nat) + (Int.toNat x.fst.Ring))) (y2.snd.snd.s.x.l.get i4).Stamp ((x.snd.rings.get i3).x.s.x.l.get i4).Stamp) (cond (Nat.beq i3 ((0 : Nat) + (Int.toNat x.fst.Ring))) (y2.snd.snd.s.x.l.get i4).Value ((x.snd.rings.get i3).x.s.x.l.get i4).Value) (cond (Nat.beq i3 ((0 : Nat) + (Int.toNat x.fst.Ring))) (y2.snd.snd.s.x.l.get i4).Left ((x.snd.rings.get i3).x.s.x.l.get i4).Left)))) (cond (Nat.beq i3 ((0 : Nat) + (Int.toNat x.fst.Ring))) y2.snd.snd.s.x.readers (x.snd.rings.get i3).x.s.x.readers))) (cond (Nat.beq i3 ((0 : Nat) + (Int.toNat x.fst.Ring))) y2.snd.snd.most (x.snd.rings.get i3).x.most) (cond (Nat.beq i3 ((0 : Nat) + (Int.toNat x.fst.Ring))) y2.snd.snd.closed (x.snd.rings.get i3).x.closed))))) x.snd.now x.snd.reads x.snd.ended)))))))))
 (.ite (ieq x.fst.Kind 13)
 (.need (inb x.fst.Ring x.snd.rings.n) <|
 (.need (((Nat.beq x.snd.rings.n x.snd.rings.n) && true) && (!(x.snd.rings.get ((0 : Nat) + (Int.toNat x.fst.Ring))).nil)) <|
 (.call con_f2h (x.snd.rings.get ((0 : Nat) + (Int.toNat x.fst.Ring))).x fun (y2 : R_f2h) =>
 (.need ((true && true) && ((Nat.beq x.snd.rings.n x.snd.rings.n) && (Nat.blt ((0 : Nat) + (Int.toNat x.fst.Ring)) x.snd.rings.n))) <|
 (.side ((fun v : Nat → V => v = v) (fun i3 => (cond (Nat.beq i3 ((0 : Nat) + (Int.toNat x.fst.Ring))) (V.ptr (Id.loc 73 0) List.nil) (V.obox (x.snd.rings.get i3).nil (e_TRr (x.snd.rings.get i3).x))))) <|
 (.need ((true && true) && (Nat.beq x.snd.rings.n x.snd.rings.n)) <|
 (.jump S_fd_20 D_fd_20 (X_fd_20.mk x.fst 0 (TFa.mk x.snd.p x.snd.threads (Sl.mk x.snd.rings.nil x.snd.rings.n (fun i3 => (Bx.mk (cond (Nat.beq i3 ((0 : Nat) + (Int.toNat x.fst.Ring))) false (x.snd.rings.get i3).nil) (TRr.mk (TRc.mk (cond (Nat.beq i3 ((0 : Nat) + (Int.toNat x.fst.Ring))) y2.snd.cursors.tail (x.snd.rings.get i3).x.cursors.tail) (Sl.mk (cond (Nat.beq i3 ((0 : Nat) + (Int.toNat x.fst.Ring))) y2.snd.cursors.heads.nil (x.snd.rings.get i3).x.cursors.heads.nil) (cond (Nat.beq i3 ((0 : Nat) + (Int.toNat x.fst.Ring))) y2.snd.cursors.heads.n (x.snd.rings.get i3).x.cursors.heads.n) (fun i4 => (cond (Nat.beq i3 ((0 : Nat) + (Int.toNat x.fst.Ring))) (y2.snd.cursors.heads.get i4) ((x.snd.rings.get i3).x.cursors.heads.get i4))))) (Bx.mk (cond (Nat.beq i3 ((0 : Nat) + (Int.toNat x.fst.Ring))) y2.snd.s.nil (x.snd.rings.get i3).x.s.nil) (TSs.mk (Sl.mk (cond (Nat.beq i3 ((0 : Nat) + (Int.toNat x.fst.Ring))) y2.snd.s.x.l.nil (x.snd.rings.get i3).x.s.x.l.nil) (cond (Nat.beq i3 ((0 : Nat) + (Int.toNat x.fst.Ring))) y2.snd.s.x.l.n (x.snd.rings.get i3).x.s.x.l.n) (fun i4 => (TSo.mk (cond (Nat.beq i3 ((0 : Nat) + (Int.toNat x.fst.Ring))) (y2.snd.s.x.l.get i4).Stamp ((x.snd.rings.get i3).x.s.x.l.get i4).Stamp) (cond (Nat.beq i3 ((0 : Nat) + (Int.toNat x.fst.Ring))) (y2.snd.s.x.l.get i4).Value ((x.snd.rings.get i3).x.s.x.l.get i4).Value) (cond (Nat.beq i3 ((0 : Nat) + (Int.toNat x.fst.Ring))) (y2.snd.s.x.l.get i4).Left ((x.snd.rings.get i3).x.s.x.l.get i4).Left)))) (cond (Nat.beq i3 ((0 : Nat) + (Int.toNat x.fst.Ring))) y2.snd.s.x.readers (x.snd.rings.get i3).x.s.x.readers))) (cond (Nat.beq i3 ((0 : Nat) + (Int.toNat x.fst.Ring))) y2.snd.most (x.snd.rings.get i3).x.most) (cond (Nat.beq i3 ((0 : Nat) + (Int.toNat x.fst.Ring))) y2.snd.closed (x.snd.rings.get i3).x.closed))))) x.snd.now x.snd.reads x.snd.ended)))))))))
 (.ite (ieq x.fst.Kind 8)
 (.jump S_fd_20 D_fd_20 (X_fd_20.mk x.fst 0 (TFa.mk x.snd.p x.snd.threads x.snd.rings (imax x.snd.now x.fst.Value) x.snd.reads x.snd.ended)))
 (.ite (ieq x.fst.Kind 10)
 (.jump S_fd_20 D_fd_20 (X_fd_20.mk x.fst 0 (TFa.mk x.snd.p x.snd.threads x.snd.rings x.snd.now (IntKind.u64.wrap (x.snd.reads + 1)) x.snd.ended)))
 (.ite (ieq x.fst.Kind 11)
 (.jump S_fd_20 D_fd_20 (X_fd_20.mk x.fst 0 (TFa.mk x.snd.p x.snd.threads x.snd.rings x.snd.now x.snd.reads true)))
 (.jump S_fd_20 D_fd_20 (X_fd_20.mk x.fst 0 x.snd)))))))))))
theorem sd_fd (x : X_fd) : (tt_fd x).Sides :=
  (TT.sC fun _ => (TT.sI (TT.sC fun _ => TT.sJ) (TT.sI (TT.sN (TT.sN (TT.sC fun _ => (TT.sN (TT.sS rfl (TT.sN TT.sJ)))))) (TT.sI (TT.sN (TT.sN (TT.sC fun _ => (TT.sN (TT.sS rfl (TT.sN TT.sJ)))))) (TT.sI (TT.sN (TT.sN (TT.sC fun _ => (TT.sN (TT.sS rfl (TT.sN TT.sJ)))))) (TT.sI (TT.sN (TT.sN (TT.sC fun _ => (TT.sN (TT.sS rfl (TT.sN TT.sJ)))))) (TT.sI TT.sJ (TT.sI TT.sJ (TT.sI TT.sJ TT.sJ)))))))))
noncomputable def D_fd : Dyn X_fd R_fd := .of tt_fd
noncomputable def con_fd : Con Tryz.prog :=
  mkCon 66 J_fd S_fd D_fd D_fd (fun _ _ h => h) 2 1 [.any, .any] (by kernel_rfl) (by kernel_rfl) (by kernel_rfl) (lbk mxk (lbc ok_fd_20 rfl lbn) 4000 (fun x => by kernel_rfl) sd_fd) rfl rfl (fun _ => rfl) (by kernel_rfl) rfl (fun _ => rfl) (fun x y _ => by kernel_rfl)
abbrev X_f1f : Type := TEv × TFa
abbrev R_f1f : Type := Int × TFa
noncomputable def J_f1f : Job Tryz.prog :=
  job Tryz.prog Tryz.f22 19 [(3, 3)] [] [] [] [.any] [sh_TFa] [con_fc, con_fd, con_fu] R_f1f [] fun y => [(V.int .i64) y.1, e_TFa y.2]
noncomputable def S_f1f : LabS :=
  lab0 Tryz.f22 2 1 X_f1f (fun x => [(V.ptr (.par 0) []), e_TEv x.1, e_TFa x.2]) fun l => (d_TEv (at_ l 1), d_TFa (at_ l 2))
noncomputable def tt_f1f (x : X_f1f) : TT Tryz.prog R_f1f :=
 (.call con_fu (x.fst, x.snd) fun (y1 : R_fu) =>
 (.ite (!(ieq y1 0))
 (.ret (y1, x.snd))
 (.call con_fc (x.fst, x.snd) fun (y2 : R_fc) =>
 (.ite (!y2)
 (.ret (11, x.snd))
 (.call con_fd (x.fst, x.snd) fun (y3 : R_fd) =>
 (.ret (0, y3)))))))
theorem sd_f1f (x : X_f1f) : (tt_f1f x).Sides :=
  (TT.sC fun _ => (TT.sI TT.sR (TT.sC fun _ => (TT.sI TT.sR (TT.sC fun _ => TT.sR)))))
noncomputable def D_f1f : Dyn X_f1f R_f1f := .of tt_f1f
noncomputable def con_f1f : Con Tryz.prog :=
  mkCon 22 J_f1f S_f1f D_f1f D_f1f (fun _ _ h => h) 2 1 [.any, .any] (by kernel_rfl) (by kernel_rfl) (by kernel_rfl) (lbk mxk lbn 4000 (fun x => by kernel_rfl) sd_f1f) rfl rfl (fun _ => rfl) (by kernel_rfl) rfl (fun _ => rfl) (fun x y _ => by kernel_rfl)
abbrev Dsl_TRs : Type := (Sl TRs)
def esl_TRs : Dsl_TRs → V := (eSl none 4 e_TRs)
def dsl_TRs : V → Dsl_TRs := (dSl d_TRs)
def hsl_TRs : Sh := (.sl none 4 (e_TRs (d_TRs .undef)))
structure TSt where
  Threads : (Sl TTh)
  Rings : (Sl TRs)
  Now : Int
  Reads : Int
  Ended : Bool
def d_TSt (v : V) : TSt :=
  ⟨dsl_TTh (fd v 0), dsl_TRs (fd v 1), dI (fd v 2), dI (fd v 3), dB (fd v 4)⟩
def e_TSt (x : TSt) : V :=
  V.cons (esl_TTh x.Threads) (V.cons (esl_TRs x.Rings) (V.cons ((V.int .u64) x.Now) (V.cons ((V.int .u64) x.Reads) (V.cons (V.bool x.Ended) (V.unit)))))
theorem nu_e_TSt (x : TSt) : (e_TSt x).NoU := ⟨trivial, trivial, trivial, trivial, trivial, trivial⟩
def sh_TSt : Sh := (.cons hsl_TTh (.cons hsl_TRs .any))
abbrev X_ff : Type := (Ar TTh)
abbrev R_ff : Type := (Sl TTh)
abbrev RR_ff : Type := (Sl TTh) × (Ar TTh)
abbrev p_ff (y : RR_ff) : (Ar TTh) := y.2
abbrev w_ff (x : X_ff) : (Ar TTh) := x
noncomputable def J_ff : Job Tryz.prog :=
  job Tryz.prog Tryz.f52 8 [(5, 1), (6, 1)] [] [] [.shut 2] [hosl_TTh] [.any] [] RR_ff [] fun y => [eosl_TTh y.1, (eAr 14 e_TTh) y.2]
noncomputable def S_ff : LabS :=
  lab0 Tryz.f52 1 1 X_ff (fun x => [(V.own (.par 0) [] 14 x.n 0 x.n), (eAr 14 e_TTh) x]) fun l => ((dAr d_TTh) (at_ l 1))
noncomputable def tt_ff (x : X_ff) : TT Tryz.prog RR_ff :=
 (.need (Nat.blt 0 x.n) <|
 (.need ((true && (Nat.beq x.n x.n)) && (room ((0 : Nat) + x.n) 128)) <|
 (.side (∀ i1 : Nat, ((i1 < x.n) → ((true && (true && (true && (true && (true && ((true && (true && (true && (true && (true && (true && (true && (true && true)))))))) && (true && true))))))) = true))) <|
 (.ret ((Sl.mk (cond (Nat.beq x.n 0) false false) ((0 : Nat) + x.n) (fun i1 => (TTh.mk (cond (Nat.blt i1 0) (0 : Int) (x.get ((0 : Nat) + (i1 - 0))).At) (cond (Nat.blt i1 0) (0 : Int) (x.get ((0 : Nat) + (i1 - 0))).Phase) (cond (Nat.blt i1 0) (0 : Int) (x.get ((0 : Nat) + (i1 - 0))).Ring) (cond (Nat.blt i1 0) (0 : Int) (x.get ((0 : Nat) + (i1 - 0))).Status) (cond (Nat.blt i1 0) (0 : Int) (x.get ((0 : Nat) + (i1 - 0))).Ticket) (fun i2 => (cond (Nat.blt i1 0) (0 : Int) ((x.get ((0 : Nat) + (i1 - 0))).Regs i2))) (Sl.mk (cond (Nat.blt i1 0) true (x.get ((0 : Nat) + (i1 - 0))).Seen.nil) (cond (Nat.blt i1 0) (0 : Nat) (x.get ((0 : Nat) + (i1 - 0))).Seen.n) (fun i2 => (cond (Nat.blt i1 0) (0 : Int) ((x.get ((0 : Nat) + (i1 - 0))).Seen.get i2))))))), x)))))
theorem sd_ff (x : X_ff) : (tt_ff x).Sides :=
  (TT.sN (TT.sN (TT.sS (fun _ _ => rfl) TT.sR)))
theorem roT_ff (x : X_ff) : TT.Ro p_ff (w_ff x) (tt_ff x) :=
  (TT.rN (TT.rN (TT.rS (TT.rR rfl))))
noncomputable def D_ff : Dyn X_ff R_ff := .ro (.of tt_ff) (fun y => (y.1)) (fun y x => (y, x)) fun x y h => congrArg (fun o => (y.1, o)) (roT_ff x y h)
noncomputable def con_ff : Con Tryz.prog :=
  mkConP 52 J_ff S_ff (.of tt_ff) D_ff (fun y x => (y, x)) (fun _ _ h => h) (fun y => eosl_TTh y) 1 1 [.any] (by kernel_rfl) (by kernel_rfl) (by kernel_rfl) (lbk mxk lbn 4000 (fun x => by kernel_rfl) sd_ff) rfl rfl (fun _ => rfl) (by kernel_rfl) rfl (fun _ _ => rfl) (fun _ => rfl) (fun x => ⟨(fun _ _ => (nu_e_TTh) _ : ∀ y, ((eAr 14 e_TTh) y).NoU) (x), trivial⟩)
abbrev X_f1g : Type := (Sl Int)
abbrev R_f1g : Type := (Sl Int)
noncomputable def J_f1g : Job Tryz.prog :=
  job Tryz.prog Tryz.f53 8 [(6, 1)] [] [] [.shut 2] [hsl_u64] [] [] R_f1g [] fun y => [esl_u64 y]
noncomputable def S_f1g : LabS :=
  lab0 Tryz.f53 1 0 X_f1g (fun x => [esl_u64 x]) fun l => (dsl_u64 (at_ l 0))
noncomputable def tt_f1g (x : X_f1g) : TT Tryz.prog R_f1g :=
 (.ite x.nil
 (.ret (Sl.mk true 0 (fun _i1 => (0 : Int))))
 (.need (true && (room ((0 : Nat) + x.n) 8)) <|
 (.ret (Sl.mk (cond (Nat.beq x.n 0) false false) ((0 : Nat) + x.n) (fun i1 => (cond (Nat.blt i1 0) (0 : Int) (x.get (i1 - 0))))))))
theorem sd_f1g (x : X_f1g) : (tt_f1g x).Sides :=
  (TT.sI TT.sR (TT.sN TT.sR))
noncomputable def D_f1g : Dyn X_f1g R_f1g := .of tt_f1g
noncomputable def con_f1g : Con Tryz.prog :=
  mkCon 53 J_f1g S_f1g D_f1g D_f1g (fun _ _ h => h) 1 0 [hsl_u64] (by kernel_rfl) (by kernel_rfl) (by kernel_rfl) (lbk mxk lbn 4000 (fun x => by kernel_rfl) sd_f1g) rfl rfl (fun _ => rfl) (by kernel_rfl) rfl (fun _ => rfl) (fun x y _ => by kernel_rfl)
abbrev DslA_TRs : Type := (Sl TRs)
def eslA_TRs : DslA_TRs → V := (eSl (some 93) 4 e_TRs)
def dslA_TRs : V → DslA_TRs := (dSl d_TRs)
def hslA_TRs : Sh := (.sl (some 93) 4 (e_TRs (d_TRs .undef)))
def e_TSt_o0_1 (x : TSt) : V :=
  V.cons (eosl_TTh x.Threads) (V.cons (eslA_TRs x.Rings) (V.cons ((V.int .u64) x.Now) (V.cons ((V.int .u64) x.Reads) (V.cons (V.bool x.Ended) (V.unit)))))
theorem nu_e_TSt_o0_1 (x : TSt) : (e_TSt_o0_1 x).NoU := ⟨(fun _ _ => (nu_e_TTh) _ : ∀ y, (eosl_TTh y).NoU) x.Threads, trivial, trivial, trivial, trivial, trivial⟩
def sh_TSt_o0_1 : Sh := (.cons hosl_TTh (.cons hslA_TRs .any))
def e_TSt_1 (x : TSt) : V :=
  V.cons (esl_TTh x.Threads) (V.cons (eslA_TRs x.Rings) (V.cons ((V.int .u64) x.Now) (V.cons ((V.int .u64) x.Reads) (V.cons (V.bool x.Ended) (V.unit)))))
theorem nu_e_TSt_1 (x : TSt) : (e_TSt_1 x).NoU := ⟨trivial, trivial, trivial, trivial, trivial, trivial⟩
def sh_TSt_1 : Sh := (.cons hsl_TTh (.cons hslA_TRs .any))
abbrev X_f3 : Type := TFa
abbrev R_f3 : Type := TSt
abbrev RR_f3 : Type := TSt × TFa
abbrev p_f3 (y : RR_f3) : TFa := y.2
abbrev w_f3 (x : X_f3) : TFa := x
noncomputable def J_f3 : Job Tryz.prog :=
  job Tryz.prog Tryz.f17 64 [(56, 1)] [(4, [.back (.loc 12 0)]), (5, [.back (.loc 37 0), .back (.loc 34 0), .back (.loc 28 0), .back (.loc 12 0)]), (6, [.back (.loc 37 0), .back (.loc 34 0), .back (.loc 28 0), .back (.loc 12 0)]), (7, [.back (.loc 37 0), .back (.loc 34 0), .back (.loc 28 0), .back (.loc 12 0)]), (8, [.back (.loc 37 0), .back (.loc 34 0), .back (.loc 28 0), .back (.loc 12 0)]), (9, [.back (.loc 37 0), .back (.loc 34 0), .back (.loc 28 0), .back (.loc 12 0), .frz (.loc 2 0) [.fld 0 0]]), (10, [.back (.loc 54 0), .back (.loc 37 0), .back (.loc 34 0), .back (.loc 28 0), .back (.loc 12 0)]), (11, [.back (.loc 54 0), .back (.loc 37 0), .back (.loc 34 0), .back (.loc 28 0), .back (.loc 12 0)]), (12, [.back (.loc 37 0), .back (.loc 34 0), .back (.loc 28 0), .back (.loc 12 0)]), (13, [.back (.loc 54 0), .back (.loc 37 0), .back (.loc 34 0), .back (.loc 28 0), .back (.loc 12 0)]), (14, [.back (.loc 54 0), .back (.loc 49 0), .back (.loc 37 0), .back (.loc 34 0), .back (.loc 28 0), .back (.loc 12 0)])] [(3, [.opn (.par 0) [.fld 1 2] 12]), (7, [.opn (.loc 2 0) [.fld 0 0] 34, .opn (.loc 2 0) [.fld 0 0] 37])] [.back (.loc 54 0), .back (.loc 49 0), .back (.loc 37 0), .back (.loc 34 0), .back (.loc 28 0), .back (.loc 12 0)] [sh_TSt] [sh_TFa] [con_f18, con_ff, con_f1g] RR_f3 [(0, [⟨.loc 12 0, .par 0, [.fld 1 2], none, none⟩, ⟨.loc 34 0, .loc 2 0, [.fld 0 0], none, none⟩, ⟨.loc 37 0, .loc 2 0, [.fld 0 0], none, none⟩]), (5, [⟨.loc 12 0, .par 0, [.fld 1 2], none, none⟩, ⟨.loc 34 0, .loc 2 0, [.fld 0 0], none, none⟩, ⟨.loc 37 0, .loc 2 0, [.fld 0 0], none, none⟩]), (9, [⟨.loc 12 0, .par 0, [.fld 1 2], none, none⟩, ⟨.loc 34 0, .loc 2 0, [.fld 0 0], none, none⟩, ⟨.loc 37 0, .loc 2 0, [.fld 0 0], none, none⟩]), (10, [⟨.loc 49 0, .par 0, [.fld 2 3], none, none⟩, ⟨.loc 12 0, .par 0, [.fld 1 2], none, none⟩, ⟨.loc 34 0, .loc 2 0, [.fld 0 0], none, none⟩, ⟨.loc 37 0, .loc 2 0, [.fld 0 0], none, none⟩])] fun y => [e_TSt y.1, e_TFa y.2]
noncomputable def S_f3 : LabS :=
  lab0 Tryz.f17 1 1 X_f3 (fun x => [(V.ptr (.par 0) []), e_TFa x]) fun l => (d_TFa (at_ l 1))
structure X_f3_5 where
  q_29 : Int
  q_30 : Int
  o_0 : TFa
  m_2 : TSt
noncomputable def S_f3_5 : LabS :=
  labAt Tryz.f17 5 [(0, .any), (2, .any), (29, .any), (30, .any)] [sh_TFa] [(.loc 2 0, sh_TSt_o0_1)] X_f3_5 (fun x => [(V.ptr (.par 0) []), (V.ptr (.loc 2 0) []), (V.int .i64) x.q_29, (V.int .i64) x.q_30, e_TFa x.o_0, e_TSt_o0_1 x.m_2]) fun l => ⟨dI (at_ l 2), dI (at_ l 3), d_TFa (at_ l 4), d_TSt (at_ l 5)⟩
structure X_f3_9 where
  o_0 : TFa
  m_2 : TSt
noncomputable def S_f3_9 : LabS :=
  labAt Tryz.f17 9 [(0, .any), (2, .any)] [sh_TFa] [(.loc 2 0, sh_TSt_1)] X_f3_9 (fun x => [(V.ptr (.par 0) []), (V.ptr (.loc 2 0) []), e_TFa x.o_0, e_TSt_1 x.m_2]) fun l => ⟨d_TFa (at_ l 2), d_TSt (at_ l 3)⟩
structure X_f3_10 where
  q_50 : Int
  q_51 : Int
  o_0 : TFa
  m_2 : TSt
noncomputable def S_f3_10 : LabS :=
  labAt Tryz.f17 10 [(2, .any), (49, .any), (50, .any), (51, .any)] [sh_TFa] [(.loc 2 0, sh_TSt_1), (.loc 49 0, .any)] X_f3_10 (fun x => [(V.ptr (.loc 2 0) []), (V.own (.loc 49 0) [] 1 x.o_0.rings.n 0 x.o_0.rings.n), (V.int .i64) x.q_50, (V.int .i64) x.q_51, V.cons (e_TPg x.o_0.p) (V.cons (eosl_TTh x.o_0.threads) (V.cons (V.lent (.loc 49 0) 69 1 x.o_0.rings.nil x.o_0.rings.n) (V.cons ((V.int .u64) x.o_0.now) (V.cons ((V.int .u64) x.o_0.reads) (V.cons (V.bool x.o_0.ended) (V.unit)))))), e_TSt_1 x.m_2, (V.arr 1 x.o_0.rings.n fun i => ebox_TRr (x.o_0.rings.get i))]) fun l => ⟨dI (at_ l 2), dI (at_ l 3), { d_TFa (at_ l 4) with rings := ⟨(dLn (fd (at_ l 4) 2)).nil, (dLn (fd (at_ l 4) 2)).n, (dAr dbox_TRr (at_ l 6)).get⟩ }, d_TSt (at_ l 5)⟩
abbrev w_f3_5 (x : X_f3_5) : TFa := (x.o_0)
abbrev w_f3_9 (x : X_f3_9) : TFa := (x.o_0)
abbrev w_f3_10 (x : X_f3_10) : TFa := (x.o_0)
noncomputable def tt_f3_10 (D_f3_10 : Dyn X_f3_10 RR_f3) (x : X_f3_10) : TT Tryz.prog RR_f3 :=
 (.ite (ilt x.q_51 x.q_50)
 (.need (inb x.q_51 x.o_0.rings.n) <|
 (.need (((Nat.beq x.o_0.rings.n x.o_0.rings.n) && true) && (!(x.o_0.rings.get ((0 : Nat) + (Int.toNat x.q_51))).nil)) <|
 (.call con_f18 (x.o_0.rings.get ((0 : Nat) + (Int.toNat x.q_51))).x fun (y2 : R_f18) =>
 (.need (true && (room (x.m_2.Rings.n + 1) 64)) <|
 (.need ((true && true) && (((Nat.beq x.o_0.rings.n x.o_0.rings.n) && (Nat.blt ((0 : Nat) + (Int.toNat x.q_51)) x.o_0.rings.n)) && (!(x.o_0.rings.get ((0 : Nat) + (Int.toNat x.q_51))).nil))) <|
 (.side (((fun v : Nat → V => v = v) (fun i3 => (cond (Nat.beq i3 ((0 : Nat) + (Int.toNat x.q_51))) (V.ptr (Id.loc 54 0) List.nil) (V.obox (x.o_0.rings.get i3).nil (e_TRr (x.o_0.rings.get i3).x))))) ∧ (((fun v : V => v = v) (e_TRr (x.o_0.rings.get ((0 : Nat) + (Int.toNat x.q_51))).x)) ∧ ((fun v : V => v = v) (V.obox (x.o_0.rings.get ((0 : Nat) + (Int.toNat x.q_51))).nil (e_TRr (x.o_0.rings.get ((0 : Nat) + (Int.toNat x.q_51))).x))))) <|
 (.jump S_f3_10 D_f3_10 (X_f3_10.mk x.q_50 (IntKind.i64.wrap (x.q_51 + 1)) x.o_0 (TSt.mk x.m_2.Threads (Sl.mk (cond (Nat.beq 1 0) x.m_2.Rings.nil false) (x.m_2.Rings.n + 1) (fun i3 => (TRs.mk (cond (Nat.blt i3 x.m_2.Rings.n) (x.m_2.Rings.get i3).Tail y2.Tail) (Sl.mk (cond (Nat.blt i3 x.m_2.Rings.n) (x.m_2.Rings.get i3).Heads.nil y2.Heads.nil) (cond (Nat.blt i3 x.m_2.Rings.n) (x.m_2.Rings.get i3).Heads.n y2.Heads.n) (fun i4 => (cond (Nat.blt i3 x.m_2.Rings.n) ((x.m_2.Rings.get i3).Heads.get i4) (y2.Heads.get i4)))) (cond (Nat.blt i3 x.m_2.Rings.n) (x.m_2.Rings.get i3).Closed y2.Closed) (Sl.mk (cond (Nat.blt i3 x.m_2.Rings.n) (x.m_2.Rings.get i3).Slots.nil y2.Slots.nil) (cond (Nat.blt i3 x.m_2.Rings.n) (x.m_2.Rings.get i3).Slots.n y2.Slots.n) (fun i4 => (TSo.mk (cond (Nat.blt i3 x.m_2.Rings.n) ((x.m_2.Rings.get i3).Slots.get i4).Stamp (y2.Slots.get i4).Stamp) (cond (Nat.blt i3 x.m_2.Rings.n) ((x.m_2.Rings.get i3).Slots.get i4).Value (y2.Slots.get i4).Value) (cond (Nat.blt i3 x.m_2.Rings.n) ((x.m_2.Rings.get i3).Slots.get i4).Left (y2.Slots.get i4).Left))))))) x.m_2.Now x.m_2.Reads x.m_2.Ended)))))))))
 (.need ((true && true) && (Nat.beq x.o_0.rings.n x.o_0.rings.n)) <|
 (.ret (x.m_2, x.o_0))))
theorem sd_f3_10 (D_f3_10 : Dyn X_f3_10 RR_f3) (x : X_f3_10) : (tt_f3_10 D_f3_10 x).Sides :=
  (TT.sI (TT.sN (TT.sN (TT.sC fun _ => (TT.sN (TT.sN (TT.sS ⟨rfl, ⟨rfl, rfl⟩⟩ TT.sJ)))))) (TT.sN TT.sR))
theorem roT_f3_10 (D_f3_10 : Dyn X_f3_10 RR_f3) (r_fabric_Fabric_State_10 : ∀ x y, D_f3_10.rel x y → p_f3 y = w_f3_10 x) (x : X_f3_10) : TT.Ro p_f3 (w_f3_10 x) (tt_f3_10 D_f3_10 x) :=
  (TT.rI (TT.rN (TT.rN (TT.rC fun _ => (TT.rN (TT.rN (TT.rS (TT.rJ (r_fabric_Fabric_State_10 _)))))))) (TT.rN (TT.rR rfl)))
noncomputable def D_f3_10 : Dyn X_f3_10 RR_f3 := Dyn.loop tt_f3_10
theorem ok_f3_10 : LabOK J_f3 S_f3_10 D_f3_10 :=
  loop_ok fun D_f3_10 h_10 => lbk mxk (lbc h_10 rfl lbn) 4000 (fun x => by kernel_rfl) (sd_f3_10 D_f3_10)
theorem ro_f3_10 : ∀ x y, D_f3_10.rel x y → p_f3 y = w_f3_10 x :=
  loop_ro fun D_f3_10 r_fabric_Fabric_State_10 => roT_f3_10 D_f3_10 r_fabric_Fabric_State_10
noncomputable def tt_f3_9 (x : X_f3_9) : TT Tryz.prog RR_f3 :=
 (.jump S_f3_10 D_f3_10 (X_f3_10.mk ((x.o_0.rings.n : Nat) : Int) 0 x.o_0 x.m_2))
theorem sd_f3_9 (x : X_f3_9) : (tt_f3_9 x).Sides :=
  TT.sJ
theorem roT_f3_9 (x : X_f3_9) : TT.Ro p_f3 (w_f3_9 x) (tt_f3_9 x) :=
  (TT.rJ (ro_f3_10 _))
noncomputable def D_f3_9 : Dyn X_f3_9 RR_f3 := .of tt_f3_9
theorem ok_f3_9 : LabOK J_f3 S_f3_9 D_f3_9 :=
  lbk mxk (lbc ok_f3_10 rfl lbn) 4000 (fun x => by kernel_rfl) sd_f3_9
theorem ro_f3_9 : ∀ x y, D_f3_9.rel x y → p_f3 y = w_f3_9 x :=
  roT_f3_9 
noncomputable def tt_f3_5 (D_f3_5 : Dyn X_f3_5 RR_f3) (x : X_f3_5) : TT Tryz.prog RR_f3 :=
 (.ite (ilt x.q_30 x.q_29)
 (.need (inb x.q_30 x.m_2.Threads.n) <|
 (.need ((Nat.beq x.m_2.Threads.n x.m_2.Threads.n) && true) <|
 (.call con_f1g (x.m_2.Threads.get ((0 : Nat) + (Int.toNat x.q_30))).Seen fun (y2 : R_f1g) =>
 (.need (inb x.q_30 x.m_2.Threads.n) <|
 (.need ((Nat.beq x.m_2.Threads.n x.m_2.Threads.n) && true) <|
 (.need ((true && true) && (Nat.beq x.m_2.Threads.n x.m_2.Threads.n)) <|
 (.jump S_f3_5 D_f3_5 (X_f3_5.mk x.q_29 (IntKind.i64.wrap (x.q_30 + 1)) x.o_0 (TSt.mk (Sl.mk x.m_2.Threads.nil x.m_2.Threads.n (fun i3 => (TTh.mk (cond (Nat.beq i3 ((0 : Nat) + (Int.toNat x.q_30))) (x.m_2.Threads.get ((0 : Nat) + (Int.toNat x.q_30))).At (x.m_2.Threads.get i3).At) (cond (Nat.beq i3 ((0 : Nat) + (Int.toNat x.q_30))) (x.m_2.Threads.get ((0 : Nat) + (Int.toNat x.q_30))).Phase (x.m_2.Threads.get i3).Phase) (cond (Nat.beq i3 ((0 : Nat) + (Int.toNat x.q_30))) (x.m_2.Threads.get ((0 : Nat) + (Int.toNat x.q_30))).Ring (x.m_2.Threads.get i3).Ring) (cond (Nat.beq i3 ((0 : Nat) + (Int.toNat x.q_30))) (x.m_2.Threads.get ((0 : Nat) + (Int.toNat x.q_30))).Status (x.m_2.Threads.get i3).Status) (cond (Nat.beq i3 ((0 : Nat) + (Int.toNat x.q_30))) (x.m_2.Threads.get ((0 : Nat) + (Int.toNat x.q_30))).Ticket (x.m_2.Threads.get i3).Ticket) (fun i4 => (cond (Nat.beq i3 ((0 : Nat) + (Int.toNat x.q_30))) ((x.m_2.Threads.get ((0 : Nat) + (Int.toNat x.q_30))).Regs i4) ((x.m_2.Threads.get i3).Regs i4))) (Sl.mk (cond (Nat.beq i3 ((0 : Nat) + (Int.toNat x.q_30))) y2.nil (x.m_2.Threads.get i3).Seen.nil) (cond (Nat.beq i3 ((0 : Nat) + (Int.toNat x.q_30))) y2.n (x.m_2.Threads.get i3).Seen.n) (fun i4 => (cond (Nat.beq i3 ((0 : Nat) + (Int.toNat x.q_30))) (y2.get i4) ((x.m_2.Threads.get i3).Seen.get i4))))))) x.m_2.Rings x.m_2.Now x.m_2.Reads x.m_2.Ended)))))))))
 (.side (∀ i2 : Nat, ((i2 < x.m_2.Threads.n) → ((true && (true && (true && (true && (true && ((true && (true && (true && (true && (true && (true && (true && (true && true)))))))) && (true && true))))))) = true))) <|
 (.jump S_f3_9 D_f3_9 (X_f3_9.mk x.o_0 x.m_2))))
theorem sd_f3_5 (D_f3_5 : Dyn X_f3_5 RR_f3) (x : X_f3_5) : (tt_f3_5 D_f3_5 x).Sides :=
  (TT.sI (TT.sN (TT.sN (TT.sC fun _ => (TT.sN (TT.sN (TT.sN TT.sJ)))))) (TT.sS (fun _ _ => rfl) TT.sJ))
theorem roT_f3_5 (D_f3_5 : Dyn X_f3_5 RR_f3) (r_fabric_Fabric_State_5 : ∀ x y, D_f3_5.rel x y → p_f3 y = w_f3_5 x) (x : X_f3_5) : TT.Ro p_f3 (w_f3_5 x) (tt_f3_5 D_f3_5 x) :=
  (TT.rI (TT.rN (TT.rN (TT.rC fun _ => (TT.rN (TT.rN (TT.rN (TT.rJ (r_fabric_Fabric_State_5 _)))))))) (TT.rS (TT.rJ (ro_f3_9 _))))
noncomputable def D_f3_5 : Dyn X_f3_5 RR_f3 := Dyn.loop tt_f3_5
theorem ok_f3_5 : LabOK J_f3 S_f3_5 D_f3_5 :=
  loop_ok fun D_f3_5 h_5 => lbk mxk (lbc h_5 rfl (lbc ok_f3_10 rfl (lbc ok_f3_9 rfl lbn))) 4000 (fun x => by kernel_rfl) (sd_f3_5 D_f3_5)
theorem ro_f3_5 : ∀ x y, D_f3_5.rel x y → p_f3 y = w_f3_5 x :=
  loop_ro fun D_f3_5 r_fabric_Fabric_State_5 => roT_f3_5 D_f3_5 r_fabric_Fabric_State_5
noncomputable def tt_f3 (x : X_f3) : TT Tryz.prog RR_f3 :=
 (.call con_ff (Ar.mk x.threads.n x.threads.get) fun (y1 : R_ff) =>
 (.need ((true && true) && (Nat.beq x.threads.n x.threads.n)) <|
 (.need ((true && true) && (Nat.beq y1.n y1.n)) <|
 (.jump S_f3_5 D_f3_5 (X_f3_5.mk ((y1.n : Nat) : Int) 0 x (TSt.mk y1 (Sl.mk true 0 (fun _i2 => (TRs.mk 0 (Sl.mk true 0 (fun _i3 => (0 : Int))) false (Sl.mk true 0 (fun _i3 => (TSo.mk 0 0 0)))))) x.now x.reads x.ended))))))
theorem sd_f3 (x : X_f3) : (tt_f3 x).Sides :=
  (TT.sC fun _ => (TT.sN (TT.sN TT.sJ)))
theorem roT_f3 (x : X_f3) : TT.Ro p_f3 (w_f3 x) (tt_f3 x) :=
  (TT.rC fun _ => (TT.rN (TT.rN (TT.rJ (ro_f3_5 _)))))
noncomputable def D_f3 : Dyn X_f3 R_f3 := .ro (.of tt_f3) (fun y => (y.1)) (fun y x => (y, x)) fun x y h => congrArg (fun o => (y.1, o)) (roT_f3 x y h)
noncomputable def con_f3 : Con Tryz.prog :=
  mkConP 17 J_f3 S_f3 (.of tt_f3) D_f3 (fun y x => (y, x)) (fun _ _ h => h) (fun y => e_TSt y) 1 1 [.any] (by kernel_rfl) (by kernel_rfl) (by kernel_rfl) (lbk mxk (lbc ok_f3_10 rfl (lbc ok_f3_9 rfl (lbc ok_f3_5 rfl lbn))) 4000 (fun x => by kernel_rfl) sd_f3) rfl rfl (fun _ => rfl) (by kernel_rfl) rfl (fun _ _ => rfl) (fun _ => rfl) (fun x => ⟨(nu_e_TFa : ∀ y, (e_TFa y).NoU) (x), trivial⟩)
abbrev X_fx : Type := Int × TFa
abbrev R_fx : Type := Bool
abbrev RR_fx : Type := Bool × TFa
abbrev p_fx (y : RR_fx) : TFa := y.2
abbrev w_fx (x : X_fx) : TFa := x.2
noncomputable def J_fx : Job Tryz.prog :=
  job Tryz.prog Tryz.f78 57 [] [(2, [.back (.loc 9 0)]), (3, [.back (.loc 9 0)]), (4, [.back (.loc 9 0)]), (5, [.back (.loc 26 0), .back (.loc 22 0), .back (.loc 9 0)]), (6, [.back (.loc 26 0), .back (.loc 22 0), .back (.loc 9 0)]), (7, [.back (.loc 40 0), .back (.loc 36 0), .back (.loc 26 0), .back (.loc 22 0), .back (.loc 9 0)])] [(4, [.opn (.par 0) [.fld 2 3] 22]), (6, [.opn (.par 0) [.fld 2 3] 36])] [.back (.loc 40 0), .back (.loc 36 0), .back (.loc 26 0), .back (.loc 22 0), .back (.loc 9 0)] [.any] [sh_TFa] [con_fm, con_f1o] RR_fx [(0, [⟨.loc 22 0, .par 0, [.fld 2 3], none, none⟩, ⟨.loc 36 0, .par 0, [.fld 2 3], none, none⟩])] fun y => [V.bool y.1, e_TFa y.2]
noncomputable def S_fx : LabS :=
  lab0 Tryz.f78 2 1 X_fx (fun x => [(V.ptr (.par 0) []), (V.int .i64) x.1, e_TFa x.2]) fun l => (dI (at_ l 1), d_TFa (at_ l 2))
noncomputable def tt_fx (x : X_fx) : TT Tryz.prog RR_fx :=
 (.need (inb x.fst x.snd.threads.n) <|
 (.need ((Nat.beq x.snd.threads.n x.snd.threads.n) && true) <|
 (.need ((true && true) && (Nat.beq x.snd.threads.n x.snd.threads.n)) <|
 (.ite (ieq (x.snd.threads.get ((0 : Nat) + (Int.toNat x.fst))).Phase 1)
 (.need (inb (x.snd.threads.get ((0 : Nat) + (Int.toNat x.fst))).Ring x.snd.rings.n) <|
 (.need (((Nat.beq x.snd.rings.n x.snd.rings.n) && true) && (!(x.snd.rings.get ((0 : Nat) + (Int.toNat (x.snd.threads.get ((0 : Nat) + (Int.toNat x.fst))).Ring))).nil)) <|
 (.call con_f1o (x.snd.rings.get ((0 : Nat) + (Int.toNat (x.snd.threads.get ((0 : Nat) + (Int.toNat x.fst))).Ring))).x fun (y1 : R_f1o) =>
 (.need ((true && true) && (((Nat.beq x.snd.rings.n x.snd.rings.n) && (Nat.blt ((0 : Nat) + (Int.toNat (x.snd.threads.get ((0 : Nat) + (Int.toNat x.fst))).Ring)) x.snd.rings.n)) && (!(x.snd.rings.get ((0 : Nat) + (Int.toNat (x.snd.threads.get ((0 : Nat) + (Int.toNat x.fst))).Ring))).nil))) <|
 (.side (((fun v : Nat → V => v = v) (fun i2 => (cond (Nat.beq i2 ((0 : Nat) + (Int.toNat (x.snd.threads.get ((0 : Nat) + (Int.toNat x.fst))).Ring))) (V.ptr (Id.loc 26 0) List.nil) (V.obox (x.snd.rings.get i2).nil (e_TRr (x.snd.rings.get i2).x))))) ∧ (((fun v : V => v = v) (e_TRr (x.snd.rings.get ((0 : Nat) + (Int.toNat (x.snd.threads.get ((0 : Nat) + (Int.toNat x.fst))).Ring))).x)) ∧ ((fun v : V => v = v) (V.obox (x.snd.rings.get ((0 : Nat) + (Int.toNat (x.snd.threads.get ((0 : Nat) + (Int.toNat x.fst))).Ring))).nil (e_TRr (x.snd.rings.get ((0 : Nat) + (Int.toNat (x.snd.threads.get ((0 : Nat) + (Int.toNat x.fst))).Ring))).x))))) <|
 (.need ((true && true) && (Nat.beq x.snd.rings.n x.snd.rings.n)) <|
 (.ret ((ilt (x.snd.threads.get ((0 : Nat) + (Int.toNat x.fst))).Ticket y1), x.snd))))))))
 (.ite (ieq (x.snd.threads.get ((0 : Nat) + (Int.toNat x.fst))).Phase 2)
 (.need (inb (x.snd.threads.get ((0 : Nat) + (Int.toNat x.fst))).Ring x.snd.rings.n) <|
 (.need (((Nat.beq x.snd.rings.n x.snd.rings.n) && true) && (!(x.snd.rings.get ((0 : Nat) + (Int.toNat (x.snd.threads.get ((0 : Nat) + (Int.toNat x.fst))).Ring))).nil)) <|
 (.need (inb x.fst x.snd.p.Threads.n) <|
 (.need (inb (x.snd.threads.get ((0 : Nat) + (Int.toNat x.fst))).At (x.snd.p.Threads.get (Int.toNat x.fst)).n) <|
 (.call con_fm ((IntKind.i64.wrap ((x.snd.p.Threads.get (Int.toNat x.fst)).get (Int.toNat (x.snd.threads.get ((0 : Nat) + (Int.toNat x.fst))).At)).K), (x.snd.rings.get ((0 : Nat) + (Int.toNat (x.snd.threads.get ((0 : Nat) + (Int.toNat x.fst))).Ring))).x) fun (y1 : R_fm) =>
 (.need ((true && true) && (((Nat.beq x.snd.rings.n x.snd.rings.n) && (Nat.blt ((0 : Nat) + (Int.toNat (x.snd.threads.get ((0 : Nat) + (Int.toNat x.fst))).Ring)) x.snd.rings.n)) && (!(x.snd.rings.get ((0 : Nat) + (Int.toNat (x.snd.threads.get ((0 : Nat) + (Int.toNat x.fst))).Ring))).nil))) <|
 (.side (((fun v : Nat → V => v = v) (fun i2 => (cond (Nat.beq i2 ((0 : Nat) + (Int.toNat (x.snd.threads.get ((0 : Nat) + (Int.toNat x.fst))).Ring))) (V.ptr (Id.loc 40 0) List.nil) (V.obox (x.snd.rings.get i2).nil (e_TRr (x.snd.rings.get i2).x))))) ∧ (((fun v : V => v = v) (e_TRr (x.snd.rings.get ((0 : Nat) + (Int.toNat (x.snd.threads.get ((0 : Nat) + (Int.toNat x.fst))).Ring))).x)) ∧ ((fun v : V => v = v) (V.obox (x.snd.rings.get ((0 : Nat) + (Int.toNat (x.snd.threads.get ((0 : Nat) + (Int.toNat x.fst))).Ring))).nil (e_TRr (x.snd.rings.get ((0 : Nat) + (Int.toNat (x.snd.threads.get ((0 : Nat) + (Int.toNat x.fst))).Ring))).x))))) <|
 (.need ((true && true) && (Nat.beq x.snd.rings.n x.snd.rings.n)) <|
 (.ret ((ilt (x.snd.threads.get ((0 : Nat) + (Int.toNat x.fst))).Ticket y1), x.snd))))))))))
 (.ret (true, x.snd)))))))
theorem sd_fx (x : X_fx) : (tt_fx x).Sides :=
  (TT.sN (TT.sN (TT.sN (TT.sI (TT.sN (TT.sN (TT.sC fun _ => (TT.sN (TT.sS ⟨rfl, ⟨rfl, rfl⟩⟩ (TT.sN TT.sR)))))) (TT.sI (TT.sN (TT.sN (TT.sN (TT.sN (TT.sC fun _ => (TT.sN (TT.sS ⟨rfl, ⟨rfl, rfl⟩⟩ (TT.sN TT.sR)))))))) TT.sR)))))
theorem roT_fx (x : X_fx) : TT.Ro p_fx (w_fx x) (tt_fx x) :=
  (TT.rN (TT.rN (TT.rN (TT.rI (TT.rN (TT.rN (TT.rC fun _ => (TT.rN (TT.rS (TT.rN (TT.rR rfl))))))) (TT.rI (TT.rN (TT.rN (TT.rN (TT.rN (TT.rC fun _ => (TT.rN (TT.rS (TT.rN (TT.rR rfl))))))))) (TT.rR rfl))))))
noncomputable def D_fx : Dyn X_fx R_fx := .ro (.of tt_fx) (fun y => (y.1)) (fun y x => (y, x.2)) fun x y h => congrArg (fun o => (y.1, o)) (roT_fx x y h)
noncomputable def con_fx : Con Tryz.prog :=
  mkConP 78 J_fx S_fx (.of tt_fx) D_fx (fun y x => (y, x.2)) (fun _ _ h => h) (fun y => V.bool y) 2 1 [.any, .any] (by kernel_rfl) (by kernel_rfl) (by kernel_rfl) (lbk mxk lbn 4000 (fun x => by kernel_rfl) sd_fx) rfl rfl (fun _ => rfl) (by kernel_rfl) rfl (fun _ _ => rfl) (fun _ => rfl) (fun x => ⟨(nu_e_TFa : ∀ y, (e_TFa y).NoU) (x.2), trivial⟩)
abbrev X_f6 : Type := TPg × TSt
abbrev R_f6 : Type := (Bx TFa) × Int
noncomputable def J_f6 : Job Tryz.prog :=
  job Tryz.prog Tryz.f37 123 [(2, 3), (3, 3), (12, 1), (64, 1), (122, 1)] [(6, [.open_ 6]), (8, [.close (.loc 68 0)]), (9, [.close (.loc 68 0)]), (10, [.close (.loc 68 0)]), (11, [.close (.loc 68 0)]), (12, [.close (.loc 68 0)]), (13, [.close (.loc 68 0)]), (14, [.close (.loc 68 0)]), (15, [.close (.loc 103 0), .close (.loc 68 0)]), (16, [.close (.loc 103 0), .close (.loc 68 0)]), (17, [.close (.loc 103 0), .close (.loc 68 0)]), (18, [.close (.loc 103 0), .close (.loc 68 0)]), (19, [.close (.loc 103 0), .close (.loc 68 0)]), (20, [.close (.loc 103 0), .close (.loc 68 0)]), (21, [.close (.loc 103 0), .close (.loc 68 0)]), (22, [.close (.loc 103 0), .close (.loc 68 0)])] [(10, [.opn (.loc 6 1) [.fld 2 3] 68]), (18, [.opn (.loc 6 1) [.fld 1 2] 103])] [.close (.loc 103 0), .close (.loc 68 0), .shut 4] [hbox_TFa, .any] [] [con_fx, con_f12, con_fb, con_f1g, con_fn] R_f6 [(0, [⟨.loc 68 0, .loc 6 1, [.fld 2 3], none, none⟩, ⟨.loc 103 0, .loc 6 1, [.fld 1 2], none, none⟩]), (6, [⟨.loc 68 0, .loc 6 1, [.fld 2 3], none, none⟩, ⟨.loc 103 0, .loc 6 1, [.fld 1 2], none, none⟩]), (8, [⟨.loc 68 0, .loc 6 1, [.fld 2 3], none, none⟩, ⟨.loc 103 0, .loc 6 1, [.fld 1 2], none, none⟩]), (13, [⟨.loc 68 0, .loc 6 1, [.fld 2 3], none, none⟩, ⟨.loc 103 0, .loc 6 1, [.fld 1 2], none, none⟩]), (14, [⟨.loc 68 0, .loc 6 1, [.fld 2 3], none, none⟩, ⟨.loc 103 0, .loc 6 1, [.fld 1 2], none, none⟩]), (15, [⟨.loc 68 0, .loc 6 1, [.fld 2 3], none, none⟩, ⟨.loc 103 0, .loc 6 1, [.fld 1 2], none, none⟩]), (21, [⟨.loc 68 0, .loc 6 1, [.fld 2 3], none, none⟩, ⟨.loc 103 0, .loc 6 1, [.fld 1 2], none, none⟩])] fun y => [V.tup (V.cons (ebox_TFa y.1) (V.cons ((V.int .i64) y.2) (V.unit)))]
noncomputable def S_f6 : LabS :=
  lab0 Tryz.f37 2 0 X_f6 (fun x => [e_TPg x.1, e_TSt x.2]) fun l => (d_TPg (at_ l 0), d_TSt (at_ l 1))
structure X_f6_6 where
  p_2 : TPg
  s_3 : TSt
  n_6 : TFa
noncomputable def S_f6_6 : LabS :=
  labAt Tryz.f37 6 [(2, .any), (3, .any), (6, .any)] [] [(.loc 6 1, sh_TFa)] X_f6_6 (fun x => [(eVp e_TPg) x.p_2, (eVp e_TSt) x.s_3, (V.ptr (.loc 6 1) []), e_TFa x.n_6]) fun l => ⟨(dVp d_TPg) (at_ l 0), (dVp d_TSt) (at_ l 1), d_TFa (at_ l 3)⟩
structure X_f6_8 where
  p_2 : TPg
  s_3 : TSt
  q_57 : (Sl TRs)
  q_58 : Int
  q_59 : Int
  n_6 : TFa
noncomputable def S_f6_8 : LabS :=
  labAt Tryz.f37 8 [(2, .any), (3, .any), (6, .any), (57, hsl_TRs), (58, .any), (59, .any)] [] [(.loc 6 1, sh_TFa)] X_f6_8 (fun x => [(eVp e_TPg) x.p_2, (eVp e_TSt) x.s_3, (V.ptr (.loc 6 1) []), esl_TRs x.q_57, (V.int .i64) x.q_58, (V.int .i64) x.q_59, e_TFa x.n_6]) fun l => ⟨(dVp d_TPg) (at_ l 0), (dVp d_TSt) (at_ l 1), dsl_TRs (at_ l 3), dI (at_ l 4), dI (at_ l 5), d_TFa (at_ l 6)⟩
structure X_f6_13 where
  p_2 : TPg
  s_3 : TSt
  q_57 : (Sl TRs)
  q_58 : Int
  q_59 : Int
  n_6 : TFa
noncomputable def S_f6_13 : LabS :=
  labAt Tryz.f37 13 [(2, .any), (3, .any), (6, .any), (57, hsl_TRs), (58, .any), (59, .any)] [] [(.loc 6 1, sh_TFa)] X_f6_13 (fun x => [(eVp e_TPg) x.p_2, (eVp e_TSt) x.s_3, (V.ptr (.loc 6 1) []), esl_TRs x.q_57, (V.int .i64) x.q_58, (V.int .i64) x.q_59, e_TFa x.n_6]) fun l => ⟨(dVp d_TPg) (at_ l 0), (dVp d_TSt) (at_ l 1), dsl_TRs (at_ l 3), dI (at_ l 4), dI (at_ l 5), d_TFa (at_ l 6)⟩
structure X_f6_14 where
  p_2 : TPg
  s_3 : TSt
  n_6 : TFa
noncomputable def S_f6_14 : LabS :=
  labAt Tryz.f37 14 [(2, .any), (3, .any), (6, .any)] [] [(.loc 6 1, sh_TFa)] X_f6_14 (fun x => [(eVp e_TPg) x.p_2, (eVp e_TSt) x.s_3, (V.ptr (.loc 6 1) []), e_TFa x.n_6]) fun l => ⟨(dVp d_TPg) (at_ l 0), (dVp d_TSt) (at_ l 1), d_TFa (at_ l 3)⟩
structure X_f6_15 where
  p_2 : TPg
  q_89 : (Sl TTh)
  q_90 : Int
  q_91 : Int
  n_6 : TFa
noncomputable def S_f6_15 : LabS :=
  labAt Tryz.f37 15 [(2, .any), (6, .any), (89, hsl_TTh), (90, .any), (91, .any)] [] [(.loc 6 1, sh_TFa)] X_f6_15 (fun x => [(eVp e_TPg) x.p_2, (V.ptr (.loc 6 1) []), esl_TTh x.q_89, (V.int .i64) x.q_90, (V.int .i64) x.q_91, e_TFa x.n_6]) fun l => ⟨(dVp d_TPg) (at_ l 0), dsl_TTh (at_ l 2), dI (at_ l 3), dI (at_ l 4), d_TFa (at_ l 5)⟩
structure X_f6_21 where
  p_2 : TPg
  q_89 : (Sl TTh)
  q_90 : Int
  q_91 : Int
  n_6 : TFa
noncomputable def S_f6_21 : LabS :=
  labAt Tryz.f37 21 [(2, .any), (6, .any), (89, hsl_TTh), (90, .any), (91, .any)] [] [(.loc 6 1, sh_TFa)] X_f6_21 (fun x => [(eVp e_TPg) x.p_2, (V.ptr (.loc 6 1) []), esl_TTh x.q_89, (V.int .i64) x.q_90, (V.int .i64) x.q_91, e_TFa x.n_6]) fun l => ⟨(dVp d_TPg) (at_ l 0), dsl_TTh (at_ l 2), dI (at_ l 3), dI (at_ l 4), d_TFa (at_ l 5)⟩
noncomputable def tt_f6_21 (D_f6_15 : Dyn X_f6_15 R_f6) (x : X_f6_21) : TT Tryz.prog R_f6 :=
 (.jump S_f6_15 D_f6_15 (X_f6_15.mk x.p_2 x.q_89 x.q_90 (IntKind.i64.wrap (x.q_91 + 1)) x.n_6))
theorem sd_f6_21 (D_f6_15 : Dyn X_f6_15 R_f6) (x : X_f6_21) : (tt_f6_21 D_f6_15 x).Sides :=
  TT.sJ
noncomputable def D_f6_21 (D_f6_15 : Dyn X_f6_15 R_f6) : Dyn X_f6_21 R_f6 := .of (tt_f6_21 D_f6_15)
theorem ok_f6_21 (D_f6_15 : Dyn X_f6_15 R_f6) (h_15 : LabOK J_f6 S_f6_15 D_f6_15) : LabOK J_f6 S_f6_21 (D_f6_21 D_f6_15) :=
  lbk mxk (lbc h_15 rfl lbn) 4000 (fun x => by kernel_rfl) (sd_f6_21 D_f6_15)
noncomputable def tt_f6_15 (D_f6_15 : Dyn X_f6_15 R_f6) (x : X_f6_15) : TT Tryz.prog R_f6 :=
 (.ite (ilt x.q_91 x.q_90)
 (.need (inb x.q_91 x.q_89.n) <|
 (.call con_f1g (x.q_89.get (Int.toNat x.q_91)).Seen fun (y2 : R_f1g) =>
 (.need (inb x.q_91 x.n_6.threads.n) <|
 (.need ((Nat.beq x.n_6.threads.n x.n_6.threads.n) && true) <|
 (.need ((true && true) && (Nat.beq x.n_6.threads.n x.n_6.threads.n)) <|
 (.need (inb x.q_91 x.p_2.Threads.n) <|
 (.call con_fn ((x.p_2.Threads.get (Int.toNat x.q_91)), (TTh.mk (x.q_89.get (Int.toNat x.q_91)).At (x.q_89.get (Int.toNat x.q_91)).Phase (x.q_89.get (Int.toNat x.q_91)).Ring (x.q_89.get (Int.toNat x.q_91)).Status (x.q_89.get (Int.toNat x.q_91)).Ticket (x.q_89.get (Int.toNat x.q_91)).Regs y2)) fun (y3 : R_fn) =>
 (.ite (!y3)
 (.ret ((Bx.mk true (TFa.mk (TPg.mk (Sl.mk true 0 (fun _i4 => (TRg.mk 0 0 0))) (Sl.mk true 0 (fun _i4 => (Sl.mk true 0 (fun _i5 => (TIn.mk 0 0 0 0 0 0)))))) (Sl.mk true 0 (fun _i4 => (TTh.mk 0 0 0 0 0 (fun _i5 => (0 : Int)) (Sl.mk true 0 (fun _i5 => (0 : Int)))))) (Sl.mk true 0 (fun _i4 => (Bx.mk true (TRr.mk (TRc.mk 0 (Sl.mk true 0 (fun _i5 => (0 : Int)))) (Bx.mk true (TSs.mk (Sl.mk true 0 (fun _i5 => (TSo.mk 0 0 0))) 0)) 0 false)))) 0 0 false)), 3))
 (.call con_fx (x.q_91, (TFa.mk x.n_6.p (Sl.mk x.n_6.threads.nil x.n_6.threads.n (fun i4 => (TTh.mk (cond (Nat.beq i4 ((0 : Nat) + (Int.toNat x.q_91))) (x.q_89.get (Int.toNat x.q_91)).At (x.n_6.threads.get i4).At) (cond (Nat.beq i4 ((0 : Nat) + (Int.toNat x.q_91))) (x.q_89.get (Int.toNat x.q_91)).Phase (x.n_6.threads.get i4).Phase) (cond (Nat.beq i4 ((0 : Nat) + (Int.toNat x.q_91))) (x.q_89.get (Int.toNat x.q_91)).Ring (x.n_6.threads.get i4).Ring) (cond (Nat.beq i4 ((0 : Nat) + (Int.toNat x.q_91))) (x.q_89.get (Int.toNat x.q_91)).Status (x.n_6.threads.get i4).Status) (cond (Nat.beq i4 ((0 : Nat) + (Int.toNat x.q_91))) (x.q_89.get (Int.toNat x.q_91)).Ticket (x.n_6.threads.get i4).Ticket) (fun i5 => (cond (Nat.beq i4 ((0 : Nat) + (Int.toNat x.q_91))) ((x.q_89.get (Int.toNat x.q_91)).Regs i5) ((x.n_6.threads.get i4).Regs i5))) (Sl.mk (cond (Nat.beq i4 ((0 : Nat) + (Int.toNat x.q_91))) y2.nil (x.n_6.threads.get i4).Seen.nil) (cond (Nat.beq i4 ((0 : Nat) + (Int.toNat x.q_91))) y2.n (x.n_6.threads.get i4).Seen.n) (fun i5 => (cond (Nat.beq i4 ((0 : Nat) + (Int.toNat x.q_91))) (y2.get i5) ((x.n_6.threads.get i4).Seen.get i5))))))) x.n_6.rings x.n_6.now x.n_6.reads x.n_6.ended)) fun (y4 : R_fx) =>
 (.ite (!y4)
 (.ret ((Bx.mk true (TFa.mk (TPg.mk (Sl.mk true 0 (fun _i5 => (TRg.mk 0 0 0))) (Sl.mk true 0 (fun _i5 => (Sl.mk true 0 (fun _i6 => (TIn.mk 0 0 0 0 0 0)))))) (Sl.mk true 0 (fun _i5 => (TTh.mk 0 0 0 0 0 (fun _i6 => (0 : Int)) (Sl.mk true 0 (fun _i6 => (0 : Int)))))) (Sl.mk true 0 (fun _i5 => (Bx.mk true (TRr.mk (TRc.mk 0 (Sl.mk true 0 (fun _i6 => (0 : Int)))) (Bx.mk true (TSs.mk (Sl.mk true 0 (fun _i6 => (TSo.mk 0 0 0))) 0)) 0 false)))) 0 0 false)), 3))
 (.jump S_f6_21 (D_f6_21 D_f6_15) (X_f6_21.mk x.p_2 x.q_89 x.q_90 x.q_91 (TFa.mk x.n_6.p (Sl.mk x.n_6.threads.nil x.n_6.threads.n (fun i5 => (TTh.mk (cond (Nat.beq i5 ((0 : Nat) + (Int.toNat x.q_91))) (x.q_89.get (Int.toNat x.q_91)).At (x.n_6.threads.get i5).At) (cond (Nat.beq i5 ((0 : Nat) + (Int.toNat x.q_91))) (x.q_89.get (Int.toNat x.q_91)).Phase (x.n_6.threads.get i5).Phase) (cond (Nat.beq i5 ((0 : Nat) + (Int.toNat x.q_91))) (x.q_89.get (Int.toNat x.q_91)).Ring (x.n_6.threads.get i5).Ring) (cond (Nat.beq i5 ((0 : Nat) + (Int.toNat x.q_91))) (x.q_89.get (Int.toNat x.q_91)).Status (x.n_6.threads.get i5).Status) (cond (Nat.beq i5 ((0 : Nat) + (Int.toNat x.q_91))) (x.q_89.get (Int.toNat x.q_91)).Ticket (x.n_6.threads.get i5).Ticket) (fun i6 => (cond (Nat.beq i5 ((0 : Nat) + (Int.toNat x.q_91))) ((x.q_89.get (Int.toNat x.q_91)).Regs i6) ((x.n_6.threads.get i5).Regs i6))) (Sl.mk (cond (Nat.beq i5 ((0 : Nat) + (Int.toNat x.q_91))) y2.nil (x.n_6.threads.get i5).Seen.nil) (cond (Nat.beq i5 ((0 : Nat) + (Int.toNat x.q_91))) y2.n (x.n_6.threads.get i5).Seen.n) (fun i6 => (cond (Nat.beq i5 ((0 : Nat) + (Int.toNat x.q_91))) (y2.get i6) ((x.n_6.threads.get i5).Seen.get i6))))))) x.n_6.rings x.n_6.now x.n_6.reads x.n_6.ended)))))))))))))
 (.ret ((Bx.mk false x.n_6), 0)))
theorem sd_f6_15 (D_f6_15 : Dyn X_f6_15 R_f6) (x : X_f6_15) : (tt_f6_15 D_f6_15 x).Sides :=
  (TT.sI (TT.sN (TT.sC fun _ => (TT.sN (TT.sN (TT.sN (TT.sN (TT.sC fun _ => (TT.sI TT.sR (TT.sC fun _ => (TT.sI TT.sR TT.sJ)))))))))) TT.sR)
noncomputable def D_f6_15 : Dyn X_f6_15 R_f6 := Dyn.loop tt_f6_15
theorem ok_f6_15 : LabOK J_f6 S_f6_15 D_f6_15 :=
  loop_ok fun D_f6_15 h_15 => lbk mxk (lbc h_15 rfl (lbc (ok_f6_21 D_f6_15 h_15) rfl lbn)) 4000 (fun x => by kernel_rfl) (sd_f6_15 D_f6_15)
noncomputable def tt_f6_14 (x : X_f6_14) : TT Tryz.prog R_f6 :=
 (.jump S_f6_15 D_f6_15 (X_f6_15.mk x.p_2 x.s_3.Threads ((x.s_3.Threads.n : Nat) : Int) 0 x.n_6))
theorem sd_f6_14 (x : X_f6_14) : (tt_f6_14 x).Sides :=
  TT.sJ
noncomputable def D_f6_14 : Dyn X_f6_14 R_f6 := .of tt_f6_14
theorem ok_f6_14 : LabOK J_f6 S_f6_14 D_f6_14 :=
  lbk mxk (lbc ok_f6_15 rfl lbn) 4000 (fun x => by kernel_rfl) sd_f6_14
noncomputable def tt_f6_13 (D_f6_8 : Dyn X_f6_8 R_f6) (x : X_f6_13) : TT Tryz.prog R_f6 :=
 (.jump S_f6_8 D_f6_8 (X_f6_8.mk x.p_2 x.s_3 x.q_57 x.q_58 (IntKind.i64.wrap (x.q_59 + 1)) x.n_6))
theorem sd_f6_13 (D_f6_8 : Dyn X_f6_8 R_f6) (x : X_f6_13) : (tt_f6_13 D_f6_8 x).Sides :=
  TT.sJ
noncomputable def D_f6_13 (D_f6_8 : Dyn X_f6_8 R_f6) : Dyn X_f6_13 R_f6 := .of (tt_f6_13 D_f6_8)
theorem ok_f6_13 (D_f6_8 : Dyn X_f6_8 R_f6) (h_8 : LabOK J_f6 S_f6_8 D_f6_8) : LabOK J_f6 S_f6_13 (D_f6_13 D_f6_8) :=
  lbk mxk (lbc h_8 rfl (lbc ok_f6_15 rfl (lbc ok_f6_14 rfl lbn))) 4000 (fun x => by kernel_rfl) (sd_f6_13 D_f6_8)
noncomputable def tt_f6_8 (D_f6_8 : Dyn X_f6_8 R_f6) (x : X_f6_8) : TT Tryz.prog R_f6 :=
 (.ite (ilt x.q_59 x.q_58)
 (.need (inb x.q_59 x.q_57.n) <|
 (.need (inb x.q_59 x.p_2.Rings.n) <|
 (.call con_fb ((x.p_2.Rings.get (Int.toNat x.q_59)), (x.q_57.get (Int.toNat x.q_59))) fun (y2 : R_fb) =>
 (.need (inb x.q_59 x.n_6.rings.n) <|
 (.need ((Nat.beq x.n_6.rings.n x.n_6.rings.n) && true) <|
 (.need ((true && true) && (Nat.beq x.n_6.rings.n x.n_6.rings.n)) <|
 (.ite (!(ieq y2.snd 0))
 (.ret ((Bx.mk true (TFa.mk (TPg.mk (Sl.mk true 0 (fun _i3 => (TRg.mk 0 0 0))) (Sl.mk true 0 (fun _i3 => (Sl.mk true 0 (fun _i4 => (TIn.mk 0 0 0 0 0 0)))))) (Sl.mk true 0 (fun _i3 => (TTh.mk 0 0 0 0 0 (fun _i4 => (0 : Int)) (Sl.mk true 0 (fun _i4 => (0 : Int)))))) (Sl.mk true 0 (fun _i3 => (Bx.mk true (TRr.mk (TRc.mk 0 (Sl.mk true 0 (fun _i4 => (0 : Int)))) (Bx.mk true (TSs.mk (Sl.mk true 0 (fun _i4 => (TSo.mk 0 0 0))) 0)) 0 false)))) 0 0 false)), 3))
 (.ite (ile 2305843009213693952 (x.q_57.get (Int.toNat x.q_59)).Tail)
 (.ret ((Bx.mk true (TFa.mk (TPg.mk (Sl.mk true 0 (fun _i3 => (TRg.mk 0 0 0))) (Sl.mk true 0 (fun _i3 => (Sl.mk true 0 (fun _i4 => (TIn.mk 0 0 0 0 0 0)))))) (Sl.mk true 0 (fun _i3 => (TTh.mk 0 0 0 0 0 (fun _i4 => (0 : Int)) (Sl.mk true 0 (fun _i4 => (0 : Int)))))) (Sl.mk true 0 (fun _i3 => (Bx.mk true (TRr.mk (TRc.mk 0 (Sl.mk true 0 (fun _i4 => (0 : Int)))) (Bx.mk true (TSs.mk (Sl.mk true 0 (fun _i4 => (TSo.mk 0 0 0))) 0)) 0 false)))) 0 0 false)), 3))
 (.jump S_f6_13 (D_f6_13 D_f6_8) (X_f6_13.mk x.p_2 x.s_3 x.q_57 x.q_58 x.q_59 (TFa.mk x.n_6.p x.n_6.threads (Sl.mk x.n_6.rings.nil x.n_6.rings.n (fun i3 => (Bx.mk (cond (Nat.beq i3 ((0 : Nat) + (Int.toNat x.q_59))) y2.fst.nil (x.n_6.rings.get i3).nil) (TRr.mk (TRc.mk (cond (Nat.beq i3 ((0 : Nat) + (Int.toNat x.q_59))) y2.fst.x.cursors.tail (x.n_6.rings.get i3).x.cursors.tail) (Sl.mk (cond (Nat.beq i3 ((0 : Nat) + (Int.toNat x.q_59))) y2.fst.x.cursors.heads.nil (x.n_6.rings.get i3).x.cursors.heads.nil) (cond (Nat.beq i3 ((0 : Nat) + (Int.toNat x.q_59))) y2.fst.x.cursors.heads.n (x.n_6.rings.get i3).x.cursors.heads.n) (fun i4 => (cond (Nat.beq i3 ((0 : Nat) + (Int.toNat x.q_59))) (y2.fst.x.cursors.heads.get i4) ((x.n_6.rings.get i3).x.cursors.heads.get i4))))) (Bx.mk (cond (Nat.beq i3 ((0 : Nat) + (Int.toNat x.q_59))) y2.fst.x.s.nil (x.n_6.rings.get i3).x.s.nil) (TSs.mk (Sl.mk (cond (Nat.beq i3 ((0 : Nat) + (Int.toNat x.q_59))) y2.fst.x.s.x.l.nil (x.n_6.rings.get i3).x.s.x.l.nil) (cond (Nat.beq i3 ((0 : Nat) + (Int.toNat x.q_59))) y2.fst.x.s.x.l.n (x.n_6.rings.get i3).x.s.x.l.n) (fun i4 => (TSo.mk (cond (Nat.beq i3 ((0 : Nat) + (Int.toNat x.q_59))) (y2.fst.x.s.x.l.get i4).Stamp ((x.n_6.rings.get i3).x.s.x.l.get i4).Stamp) (cond (Nat.beq i3 ((0 : Nat) + (Int.toNat x.q_59))) (y2.fst.x.s.x.l.get i4).Value ((x.n_6.rings.get i3).x.s.x.l.get i4).Value) (cond (Nat.beq i3 ((0 : Nat) + (Int.toNat x.q_59))) (y2.fst.x.s.x.l.get i4).Left ((x.n_6.rings.get i3).x.s.x.l.get i4).Left)))) (cond (Nat.beq i3 ((0 : Nat) + (Int.toNat x.q_59))) y2.fst.x.s.x.readers (x.n_6.rings.get i3).x.s.x.readers))) (cond (Nat.beq i3 ((0 : Nat) + (Int.toNat x.q_59))) y2.fst.x.most (x.n_6.rings.get i3).x.most) (cond (Nat.beq i3 ((0 : Nat) + (Int.toNat x.q_59))) y2.fst.x.closed (x.n_6.rings.get i3).x.closed))))) x.n_6.now x.n_6.reads x.n_6.ended)))))))))))
 (.jump S_f6_14 D_f6_14 (X_f6_14.mk x.p_2 x.s_3 x.n_6)))
theorem sd_f6_8 (D_f6_8 : Dyn X_f6_8 R_f6) (x : X_f6_8) : (tt_f6_8 D_f6_8 x).Sides :=
  (TT.sI (TT.sN (TT.sN (TT.sC fun _ => (TT.sN (TT.sN (TT.sN (TT.sI TT.sR (TT.sI TT.sR TT.sJ)))))))) TT.sJ)
noncomputable def D_f6_8 : Dyn X_f6_8 R_f6 := Dyn.loop tt_f6_8
theorem ok_f6_8 : LabOK J_f6 S_f6_8 D_f6_8 :=
  loop_ok fun D_f6_8 h_8 => lbk mxk (lbc h_8 rfl (lbc ok_f6_15 rfl (lbc ok_f6_14 rfl (lbc (ok_f6_13 D_f6_8 h_8) rfl lbn)))) 4000 (fun x => by kernel_rfl) (sd_f6_8 D_f6_8)
noncomputable def tt_f6_6 (x : X_f6_6) : TT Tryz.prog R_f6 :=
 (.jump S_f6_8 D_f6_8 (X_f6_8.mk x.p_2 x.s_3 x.s_3.Rings ((x.s_3.Rings.n : Nat) : Int) 0 (TFa.mk x.n_6.p x.n_6.threads x.n_6.rings x.s_3.Now x.s_3.Reads x.s_3.Ended)))
theorem sd_f6_6 (x : X_f6_6) : (tt_f6_6 x).Sides :=
  TT.sJ
noncomputable def D_f6_6 : Dyn X_f6_6 R_f6 := .of tt_f6_6
theorem ok_f6_6 : LabOK J_f6 S_f6_6 D_f6_6 :=
  lbk mxk (lbc ok_f6_15 rfl (lbc ok_f6_14 rfl (lbc ok_f6_8 rfl lbn))) 4000 (fun x => by kernel_rfl) sd_f6_6
noncomputable def tt_f6 (x : X_f6) : TT Tryz.prog R_f6 :=
 (.call con_f12 x.fst fun (y1 : R_f12) =>
 (.ite (!(ieq y1.snd 0))
 (.ret ((Bx.mk true (TFa.mk (TPg.mk (Sl.mk true 0 (fun _i2 => (TRg.mk 0 0 0))) (Sl.mk true 0 (fun _i2 => (Sl.mk true 0 (fun _i3 => (TIn.mk 0 0 0 0 0 0)))))) (Sl.mk true 0 (fun _i2 => (TTh.mk 0 0 0 0 0 (fun _i3 => (0 : Int)) (Sl.mk true 0 (fun _i3 => (0 : Int)))))) (Sl.mk true 0 (fun _i2 => (Bx.mk true (TRr.mk (TRc.mk 0 (Sl.mk true 0 (fun _i3 => (0 : Int)))) (Bx.mk true (TSs.mk (Sl.mk true 0 (fun _i3 => (TSo.mk 0 0 0))) 0)) 0 false)))) 0 0 false)), y1.snd))
 (.ite (!(ieq ((x.snd.Threads.n : Nat) : Int) ((x.fst.Threads.n : Nat) : Int)))
 (.ret ((Bx.mk true (TFa.mk (TPg.mk (Sl.mk true 0 (fun _i2 => (TRg.mk 0 0 0))) (Sl.mk true 0 (fun _i2 => (Sl.mk true 0 (fun _i3 => (TIn.mk 0 0 0 0 0 0)))))) (Sl.mk true 0 (fun _i2 => (TTh.mk 0 0 0 0 0 (fun _i3 => (0 : Int)) (Sl.mk true 0 (fun _i3 => (0 : Int)))))) (Sl.mk true 0 (fun _i2 => (Bx.mk true (TRr.mk (TRc.mk 0 (Sl.mk true 0 (fun _i3 => (0 : Int)))) (Bx.mk true (TSs.mk (Sl.mk true 0 (fun _i3 => (TSo.mk 0 0 0))) 0)) 0 false)))) 0 0 false)), 3))
 (.ite (!(ieq ((x.snd.Rings.n : Nat) : Int) ((x.fst.Rings.n : Nat) : Int)))
 (.ret ((Bx.mk true (TFa.mk (TPg.mk (Sl.mk true 0 (fun _i2 => (TRg.mk 0 0 0))) (Sl.mk true 0 (fun _i2 => (Sl.mk true 0 (fun _i3 => (TIn.mk 0 0 0 0 0 0)))))) (Sl.mk true 0 (fun _i2 => (TTh.mk 0 0 0 0 0 (fun _i3 => (0 : Int)) (Sl.mk true 0 (fun _i3 => (0 : Int)))))) (Sl.mk true 0 (fun _i2 => (Bx.mk true (TRr.mk (TRc.mk 0 (Sl.mk true 0 (fun _i3 => (0 : Int)))) (Bx.mk true (TSs.mk (Sl.mk true 0 (fun _i3 => (TSo.mk 0 0 0))) 0)) 0 false)))) 0 0 false)), 3))
 (.ite (ile 9223372036854775808 x.snd.Now)
 (.ret ((Bx.mk true (TFa.mk (TPg.mk (Sl.mk true 0 (fun _i2 => (TRg.mk 0 0 0))) (Sl.mk true 0 (fun _i2 => (Sl.mk true 0 (fun _i3 => (TIn.mk 0 0 0 0 0 0)))))) (Sl.mk true 0 (fun _i2 => (TTh.mk 0 0 0 0 0 (fun _i3 => (0 : Int)) (Sl.mk true 0 (fun _i3 => (0 : Int)))))) (Sl.mk true 0 (fun _i2 => (Bx.mk true (TRr.mk (TRc.mk 0 (Sl.mk true 0 (fun _i3 => (0 : Int)))) (Bx.mk true (TSs.mk (Sl.mk true 0 (fun _i3 => (TSo.mk 0 0 0))) 0)) 0 false)))) 0 0 false)), 3))
 (.need (!y1.fst.nil) <|
 (.jump S_f6_6 D_f6_6 (X_f6_6.mk x.fst x.snd y1.fst.x))))))))
theorem sd_f6 (x : X_f6) : (tt_f6 x).Sides :=
  (TT.sC fun _ => (TT.sI TT.sR (TT.sI TT.sR (TT.sI TT.sR (TT.sI TT.sR (TT.sN TT.sJ))))))
noncomputable def D_f6 : Dyn X_f6 R_f6 := .of tt_f6
noncomputable def con_f6 : Con Tryz.prog :=
  mkCon 37 J_f6 S_f6 D_f6 D_f6 (fun _ _ h => h) 2 0 [sh_TPg, sh_TSt] (by kernel_rfl) (by kernel_rfl) (by kernel_rfl) (lbk mxk (lbc ok_f6_15 rfl (lbc ok_f6_14 rfl (lbc ok_f6_8 rfl (lbc ok_f6_6 rfl lbn)))) 4000 (fun x => by kernel_rfl) sd_f6) rfl rfl (fun _ => rfl) (by kernel_rfl) rfl (fun _ => rfl) (fun x y _ => by kernel_rfl)
abbrev X_f24 : Type := TEv × TFa
abbrev R_f24 : Type := Int × TFa
noncomputable def J_f24 : Job Tryz.prog :=
  job Tryz.prog Tryz.f23 27 [(3, 3)] [] [] [] [.any] [sh_TFa] [con_fz, con_fd, con_f10, con_fu, con_f2a] R_f24 [] fun y => [(V.int .i64) y.1, e_TFa y.2]
noncomputable def S_f24 : LabS :=
  lab0 Tryz.f23 2 1 X_f24 (fun x => [(V.ptr (.par 0) []), e_TEv x.1, e_TFa x.2]) fun l => (d_TEv (at_ l 1), d_TFa (at_ l 2))
noncomputable def tt_f24 (x : X_f24) : TT Tryz.prog R_f24 :=
 (.call con_fu (x.fst, x.snd) fun (y1 : R_fu) =>
 (.ite (!(ieq y1 0))
 (.ret (y1, x.snd))
 (.call con_f2a x.fst fun (y2 : R_f2a) =>
 (.ite y2
 (.call con_fz (x.fst.Thread, x.snd) fun (y3 : R_fz) =>
 (.call con_f10 (x.fst, (y3, x.snd)) fun (y4 : R_f10) =>
 (.ite (!y4)
 (.ret (8, x.snd))
 (.call con_fd (x.fst, x.snd) fun (y5 : R_fd) =>
 (.ret (0, y5))))))
 (.call con_fd (x.fst, x.snd) fun (y3 : R_fd) =>
 (.ret (0, y3)))))))
theorem sd_f24 (x : X_f24) : (tt_f24 x).Sides :=
  (TT.sC fun _ => (TT.sI TT.sR (TT.sC fun _ => (TT.sI (TT.sC fun _ => (TT.sC fun _ => (TT.sI TT.sR (TT.sC fun _ => TT.sR)))) (TT.sC fun _ => TT.sR)))))
noncomputable def D_f24 : Dyn X_f24 R_f24 := .of tt_f24
noncomputable def con_f24 : Con Tryz.prog :=
  mkCon 23 J_f24 S_f24 D_f24 D_f24 (fun _ _ h => h) 2 1 [.any, .any] (by kernel_rfl) (by kernel_rfl) (by kernel_rfl) (lbk mxk lbn 4000 (fun x => by kernel_rfl) sd_f24) rfl rfl (fun _ => rfl) (by kernel_rfl) rfl (fun _ => rfl) (fun x y _ => by kernel_rfl)
abbrev X_f1b : Type := Int × TFa
abbrev R_f1b : Type := Bool
abbrev RR_f1b : Type := Bool × TFa
abbrev p_f1b (y : RR_f1b) : TFa := y.2
abbrev w_f1b (x : X_f1b) : TFa := x.2
noncomputable def J_f1b : Job Tryz.prog :=
  job Tryz.prog Tryz.f27 19 [] [] [] [.back (.loc 12 0)] [.any] [sh_TFa] [con_fy] RR_f1b [] fun y => [V.bool y.1, e_TFa y.2]
noncomputable def S_f1b : LabS :=
  lab0 Tryz.f27 2 1 X_f1b (fun x => [(V.ptr (.par 0) []), (V.int .i64) x.1, e_TFa x.2]) fun l => (dI (at_ l 1), d_TFa (at_ l 2))
noncomputable def tt_f1b (x : X_f1b) : TT Tryz.prog RR_f1b :=
 (.call con_fy (x.fst, x.snd) fun (y1 : R_fy) =>
 (.ite y1
 (.need (inb x.fst x.snd.threads.n) <|
 (.need ((Nat.beq x.snd.threads.n x.snd.threads.n) && true) <|
 (.need ((true && true) && (Nat.beq x.snd.threads.n x.snd.threads.n)) <|
 (.ret ((ieq (x.snd.threads.get ((0 : Nat) + (Int.toNat x.fst))).Status 0), x.snd)))))
 (.ret (false, x.snd))))
theorem sd_f1b (x : X_f1b) : (tt_f1b x).Sides :=
  (TT.sC fun _ => (TT.sI (TT.sN (TT.sN (TT.sN TT.sR))) TT.sR))
theorem roT_f1b (x : X_f1b) : TT.Ro p_f1b (w_f1b x) (tt_f1b x) :=
  (TT.rC fun _ => (TT.rI (TT.rN (TT.rN (TT.rN (TT.rR rfl)))) (TT.rR rfl)))
noncomputable def D_f1b : Dyn X_f1b R_f1b := .ro (.of tt_f1b) (fun y => (y.1)) (fun y x => (y, x.2)) fun x y h => congrArg (fun o => (y.1, o)) (roT_f1b x y h)
noncomputable def con_f1b : Con Tryz.prog :=
  mkConP 27 J_f1b S_f1b (.of tt_f1b) D_f1b (fun y x => (y, x.2)) (fun _ _ h => h) (fun y => V.bool y) 2 1 [.any, .any] (by kernel_rfl) (by kernel_rfl) (by kernel_rfl) (lbk mxk lbn 4000 (fun x => by kernel_rfl) sd_f1b) rfl rfl (fun _ => rfl) (by kernel_rfl) rfl (fun _ _ => rfl) (fun _ => rfl) (fun x => ⟨(nu_e_TFa : ∀ y, (e_TFa y).NoU) (x.2), trivial⟩)
abbrev X_f22 : Type := TTh
abbrev R_f22 : Type := Bool
noncomputable def J_f22 : Job Tryz.prog :=
  job Tryz.prog Tryz.f98 6 [(1, 3)] [] [] [] [.any] [] [] R_f22 [] fun y => [V.bool y]
noncomputable def S_f22 : LabS :=
  lab0 Tryz.f98 1 0 X_f22 (fun x => [e_TTh x]) fun l => (d_TTh (at_ l 0))
noncomputable def tt_f22 (x : X_f22) : TT Tryz.prog R_f22 :=
 (.ret (ieq x.Status 0))
theorem sd_f22 (x : X_f22) : (tt_f22 x).Sides :=
  TT.sR
noncomputable def D_f22 : Dyn X_f22 R_f22 := .of tt_f22
noncomputable def con_f22 : Con Tryz.prog :=
  mkCon 98 J_f22 S_f22 D_f22 D_f22 (fun _ _ h => h) 1 0 [sh_TTh] (by kernel_rfl) (by kernel_rfl) (by kernel_rfl) (lbk mxk lbn 4000 (fun x => by kernel_rfl) sd_f22) rfl rfl (fun _ => rfl) (by kernel_rfl) rfl (fun _ => rfl) (fun x y _ => by kernel_rfl)
abbrev X_f0 : Type := (Ar TTh)
abbrev R_f0 : Type := Int
abbrev RR_f0 : Type := Int × (Ar TTh)
abbrev p_f0 (y : RR_f0) : (Ar TTh) := y.2
abbrev w_f0 (x : X_f0) : (Ar TTh) := x
noncomputable def J_f0 : Job Tryz.prog :=
  job Tryz.prog Tryz.f146 19 [] [] [] [] [.any] [.any] [con_f22] RR_f0 [] fun y => [(V.int .i64) y.1, (eAr 14 e_TTh) y.2]
noncomputable def S_f0 : LabS :=
  lab0 Tryz.f146 2 1 X_f0 (fun x => [(V.own (.par 0) [] 14 x.n 0 x.n), (V.fn 98 V.unit), (eAr 14 e_TTh) x]) fun l => ((dAr d_TTh) (at_ l 2))
structure X_f0_2 where
  q_7 : Int
  q_8 : Int
  o_0 : (Ar TTh)
noncomputable def S_f0_2 : LabS :=
  labAt Tryz.f146 2 [(0, .any), (1, .any), (7, .any), (8, .any)] [.any] [] X_f0_2 (fun x => [(V.own (.par 0) [] 14 x.o_0.n 0 x.o_0.n), (V.fn 98 V.unit), (V.int .i64) x.q_7, (V.int .i64) x.q_8, (eAr 14 e_TTh) x.o_0]) fun l => ⟨dI (at_ l 2), dI (at_ l 3), (dAr d_TTh) (at_ l 4)⟩
abbrev w_f0_2 (x : X_f0_2) : (Ar TTh) := (x.o_0)
noncomputable def tt_f0_2 (D_f0_2 : Dyn X_f0_2 RR_f0) (x : X_f0_2) : TT Tryz.prog RR_f0 :=
 (.ite (ilt x.q_8 x.q_7)
 (.need (inb x.q_8 x.o_0.n) <|
 (.need ((Nat.beq x.o_0.n x.o_0.n) && true) <|
 (.call con_f22 (x.o_0.get ((0 : Nat) + (Int.toNat x.q_8))) fun (y2 : R_f22) =>
 (.ite y2
 (.ret (x.q_8, x.o_0))
 (.jump S_f0_2 D_f0_2 (X_f0_2.mk x.q_7 (IntKind.i64.wrap (x.q_8 + 1)) x.o_0))))))
 (.ret ((-(1 : Int)), x.o_0)))
theorem sd_f0_2 (D_f0_2 : Dyn X_f0_2 RR_f0) (x : X_f0_2) : (tt_f0_2 D_f0_2 x).Sides :=
  (TT.sI (TT.sN (TT.sN (TT.sC fun _ => (TT.sI TT.sR TT.sJ)))) TT.sR)
theorem roT_f0_2 (D_f0_2 : Dyn X_f0_2 RR_f0) (r_slices_IndexFunc_api_ThreadState__fabric_Fabric_Over_1_o0_2 : ∀ x y, D_f0_2.rel x y → p_f0 y = w_f0_2 x) (x : X_f0_2) : TT.Ro p_f0 (w_f0_2 x) (tt_f0_2 D_f0_2 x) :=
  (TT.rI (TT.rN (TT.rN (TT.rC fun _ => (TT.rI (TT.rR rfl) (TT.rJ (r_slices_IndexFunc_api_ThreadState__fabric_Fabric_Over_1_o0_2 _)))))) (TT.rR rfl))
noncomputable def D_f0_2 : Dyn X_f0_2 RR_f0 := Dyn.loop tt_f0_2
theorem ok_f0_2 : LabOK J_f0 S_f0_2 D_f0_2 :=
  loop_ok fun D_f0_2 h_2 => lbk mxk (lbc h_2 rfl lbn) 4000 (fun x => by kernel_rfl) (sd_f0_2 D_f0_2)
theorem ro_f0_2 : ∀ x y, D_f0_2.rel x y → p_f0 y = w_f0_2 x :=
  loop_ro fun D_f0_2 r_slices_IndexFunc_api_ThreadState__fabric_Fabric_Over_1_o0_2 => roT_f0_2 D_f0_2 r_slices_IndexFunc_api_ThreadState__fabric_Fabric_Over_1_o0_2
noncomputable def tt_f0 (x : X_f0) : TT Tryz.prog RR_f0 :=
 (.jump S_f0_2 D_f0_2 (X_f0_2.mk ((x.n : Nat) : Int) 0 x))
theorem sd_f0 (x : X_f0) : (tt_f0 x).Sides :=
  TT.sJ
theorem roT_f0 (x : X_f0) : TT.Ro p_f0 (w_f0 x) (tt_f0 x) :=
  (TT.rJ (ro_f0_2 _))
noncomputable def D_f0 : Dyn X_f0 R_f0 := .ro (.of tt_f0) (fun y => (y.1)) (fun y x => (y, x)) fun x y h => congrArg (fun o => (y.1, o)) (roT_f0 x y h)
noncomputable def con_f0 : Con Tryz.prog :=
  mkConP 146 J_f0 S_f0 (.of tt_f0) D_f0 (fun y x => (y, x)) (fun _ _ h => h) (fun y => (V.int .i64) y) 2 1 [.any, .any] (by kernel_rfl) (by kernel_rfl) (by kernel_rfl) (lbk mxk (lbc ok_f0_2 rfl lbn) 4000 (fun x => by kernel_rfl) sd_f0) rfl rfl (fun _ => rfl) (by kernel_rfl) rfl (fun _ _ => rfl) (fun _ => rfl) (fun x => ⟨(fun _ _ => (nu_e_TTh) _ : ∀ y, ((eAr 14 e_TTh) y).NoU) (x), trivial⟩)
abbrev X_f9 : Type := (Ar TTh)
abbrev R_f9 : Type := Bool
abbrev RR_f9 : Type := Bool × (Ar TTh)
abbrev p_f9 (y : RR_f9) : (Ar TTh) := y.2
abbrev w_f9 (x : X_f9) : (Ar TTh) := x
noncomputable def J_f9 : Job Tryz.prog :=
  job Tryz.prog Tryz.f97 9 [(5, 1)] [] [] [] [.any] [.any] [con_f0] RR_f9 [] fun y => [V.bool y.1, (eAr 14 e_TTh) y.2]
noncomputable def S_f9 : LabS :=
  lab0 Tryz.f97 2 1 X_f9 (fun x => [(V.own (.par 0) [] 14 x.n 0 x.n), (V.fn 98 V.unit), (eAr 14 e_TTh) x]) fun l => ((dAr d_TTh) (at_ l 2))
noncomputable def tt_f9 (x : X_f9) : TT Tryz.prog RR_f9 :=
 (.call con_f0 x fun (y1 : R_f0) =>
 (.ret ((ile 0 y1), x)))
theorem sd_f9 (x : X_f9) : (tt_f9 x).Sides :=
  (TT.sC fun _ => TT.sR)
theorem roT_f9 (x : X_f9) : TT.Ro p_f9 (w_f9 x) (tt_f9 x) :=
  (TT.rC fun _ => (TT.rR rfl))
noncomputable def D_f9 : Dyn X_f9 R_f9 := .ro (.of tt_f9) (fun y => (y.1)) (fun y x => (y, x)) fun x y h => congrArg (fun o => (y.1, o)) (roT_f9 x y h)
noncomputable def con_f9 : Con Tryz.prog :=
  mkConP 97 J_f9 S_f9 (.of tt_f9) D_f9 (fun y x => (y, x)) (fun _ _ h => h) (fun y => V.bool y) 2 1 [.any, .any] (by kernel_rfl) (by kernel_rfl) (by kernel_rfl) (lbk mxk lbn 4000 (fun x => by kernel_rfl) sd_f9) rfl rfl (fun _ => rfl) (by kernel_rfl) rfl (fun _ _ => rfl) (fun _ => rfl) (fun x => ⟨(fun _ _ => (nu_e_TTh) _ : ∀ y, ((eAr 14 e_TTh) y).NoU) (x), trivial⟩)
abbrev X_f1c : Type := TFa
abbrev R_f1c : Type := Bool
abbrev RR_f1c : Type := Bool × TFa
abbrev p_f1c (y : RR_f1c) : TFa := y.2
abbrev w_f1c (x : X_f1c) : TFa := x
noncomputable def J_f1c : Job Tryz.prog :=
  job Tryz.prog Tryz.f56 13 [] [] [] [.back (.loc 9 0)] [.any] [sh_TFa] [con_f9] RR_f1c [] fun y => [V.bool y.1, e_TFa y.2]
noncomputable def S_f1c : LabS :=
  lab0 Tryz.f56 1 1 X_f1c (fun x => [(V.ptr (.par 0) []), e_TFa x]) fun l => (d_TFa (at_ l 1))
noncomputable def tt_f1c (x : X_f1c) : TT Tryz.prog RR_f1c :=
 (.call con_f9 (Ar.mk x.threads.n x.threads.get) fun (y1 : R_f9) =>
 (.need ((true && true) && (Nat.beq x.threads.n x.threads.n)) <|
 (.ret ((!y1), x))))
theorem sd_f1c (x : X_f1c) : (tt_f1c x).Sides :=
  (TT.sC fun _ => (TT.sN TT.sR))
theorem roT_f1c (x : X_f1c) : TT.Ro p_f1c (w_f1c x) (tt_f1c x) :=
  (TT.rC fun _ => (TT.rN (TT.rR rfl)))
noncomputable def D_f1c : Dyn X_f1c R_f1c := .ro (.of tt_f1c) (fun y => (y.1)) (fun y x => (y, x)) fun x y h => congrArg (fun o => (y.1, o)) (roT_f1c x y h)
noncomputable def con_f1c : Con Tryz.prog :=
  mkConP 56 J_f1c S_f1c (.of tt_f1c) D_f1c (fun y x => (y, x)) (fun _ _ h => h) (fun y => V.bool y) 1 1 [.any] (by kernel_rfl) (by kernel_rfl) (by kernel_rfl) (lbk mxk lbn 4000 (fun x => by kernel_rfl) sd_f1c) rfl rfl (fun _ => rfl) (by kernel_rfl) rfl (fun _ _ => rfl) (fun _ => rfl) (fun x => ⟨(nu_e_TFa : ∀ y, (e_TFa y).NoU) (x), trivial⟩)
abbrev X_f1i : Type := TFa
abbrev R_f1i : Type := Int
abbrev RR_f1i : Type := Int × TFa
abbrev p_f1i (y : RR_f1i) : TFa := y.2
abbrev w_f1i (x : X_f1i) : TFa := x
noncomputable def J_f1i : Job Tryz.prog :=
  job Tryz.prog Tryz.f40 9 [] [] [] [] [.any] [sh_TFa] [] RR_f1i [] fun y => [(V.int .u64) y.1, e_TFa y.2]
noncomputable def S_f1i : LabS :=
  lab0 Tryz.f40 1 1 X_f1i (fun x => [(V.ptr (.par 0) []), e_TFa x]) fun l => (d_TFa (at_ l 1))
noncomputable def tt_f1i (x : X_f1i) : TT Tryz.prog RR_f1i :=
 (.ret (x.now, x))
theorem sd_f1i (x : X_f1i) : (tt_f1i x).Sides :=
  TT.sR
theorem roT_f1i (x : X_f1i) : TT.Ro p_f1i (w_f1i x) (tt_f1i x) :=
  (TT.rR rfl)
noncomputable def D_f1i : Dyn X_f1i R_f1i := .ro (.of tt_f1i) (fun y => (y.1)) (fun y x => (y, x)) fun x y h => congrArg (fun o => (y.1, o)) (roT_f1i x y h)
noncomputable def con_f1i : Con Tryz.prog :=
  mkConP 40 J_f1i S_f1i (.of tt_f1i) D_f1i (fun y x => (y, x)) (fun _ _ h => h) (fun y => (V.int .u64) y) 1 1 [.any] (by kernel_rfl) (by kernel_rfl) (by kernel_rfl) (lbk mxk lbn 4000 (fun x => by kernel_rfl) sd_f1i) rfl rfl (fun _ => rfl) (by kernel_rfl) rfl (fun _ _ => rfl) (fun _ => rfl) (fun x => ⟨(nu_e_TFa : ∀ y, (e_TFa y).NoU) (x), trivial⟩)
abbrev X_f1d : Type := Int × TFa
abbrev R_f1d : Type := (Sl Int)
abbrev RR_f1d : Type := (Sl Int) × TFa
abbrev p_f1d (y : RR_f1d) : TFa := y.2
abbrev w_f1d (x : X_f1d) : TFa := x.2
noncomputable def J_f1d : Job Tryz.prog :=
  job Tryz.prog Tryz.f26 18 [] [] [] [.back (.loc 12 0), .shut 4] [hsl_u64] [sh_TFa] [con_fy, con_f1g] RR_f1d [] fun y => [esl_u64 y.1, e_TFa y.2]
noncomputable def S_f1d : LabS :=
  lab0 Tryz.f26 2 1 X_f1d (fun x => [(V.ptr (.par 0) []), (V.int .i64) x.1, e_TFa x.2]) fun l => (dI (at_ l 1), d_TFa (at_ l 2))
noncomputable def tt_f1d (x : X_f1d) : TT Tryz.prog RR_f1d :=
 (.call con_fy (x.fst, x.snd) fun (y1 : R_fy) =>
 (.ite (!y1)
 (.ret ((Sl.mk true 0 (fun _i2 => (0 : Int))), x.snd))
 (.need (inb x.fst x.snd.threads.n) <|
 (.need ((Nat.beq x.snd.threads.n x.snd.threads.n) && true) <|
 (.call con_f1g (x.snd.threads.get ((0 : Nat) + (Int.toNat x.fst))).Seen fun (y2 : R_f1g) =>
 (.need ((true && true) && (Nat.beq x.snd.threads.n x.snd.threads.n)) <|
 (.ret (y2, x.snd))))))))
theorem sd_f1d (x : X_f1d) : (tt_f1d x).Sides :=
  (TT.sC fun _ => (TT.sI TT.sR (TT.sN (TT.sN (TT.sC fun _ => (TT.sN TT.sR))))))
theorem roT_f1d (x : X_f1d) : TT.Ro p_f1d (w_f1d x) (tt_f1d x) :=
  (TT.rC fun _ => (TT.rI (TT.rR rfl) (TT.rN (TT.rN (TT.rC fun _ => (TT.rN (TT.rR rfl)))))))
noncomputable def D_f1d : Dyn X_f1d R_f1d := .ro (.of tt_f1d) (fun y => (y.1)) (fun y x => (y, x.2)) fun x y h => congrArg (fun o => (y.1, o)) (roT_f1d x y h)
noncomputable def con_f1d : Con Tryz.prog :=
  mkConP 26 J_f1d S_f1d (.of tt_f1d) D_f1d (fun y x => (y, x.2)) (fun _ _ h => h) (fun y => esl_u64 y) 2 1 [.any, .any] (by kernel_rfl) (by kernel_rfl) (by kernel_rfl) (lbk mxk lbn 4000 (fun x => by kernel_rfl) sd_f1d) rfl rfl (fun _ => rfl) (by kernel_rfl) rfl (fun _ _ => rfl) (fun _ => rfl) (fun x => ⟨(nu_e_TFa : ∀ y, (e_TFa y).NoU) (x.2), trivial⟩)
abbrev X_f2y : Type := Unit
abbrev R_f2y : Type := Bool
noncomputable def J_f2y : Job Tryz.prog :=
  job Tryz.prog Tryz.f18 190 [(22, 1), (27, 1), (36, 1), (41, 1), (66, 1), (155, 1), (185, 1)] [(3, [.open_ 1])] [] [] [.any] [] [con_fc, con_f1e, con_f1f, con_f24, con_f1i, con_f1c, con_f1b, con_f1d, con_f3, con_f6, con_f12, con_f31] R_f2y [] fun y => [V.bool y]
noncomputable def S_f2y : LabS :=
  lab0 Tryz.f18 0 0 X_f2y (fun _x => []) fun _l => ()
noncomputable def tt_f2y (_x : X_f2y) : TT Tryz.prog R_f2y :=
 (.call con_f31 PUnit.unit fun (y1 : R_f31) =>
 (.call con_f12 y1 fun (y2 : R_f12) =>
 (.call con_f12 (TPg.mk (Sl.mk true 0 (fun _i3 => (TRg.mk 0 0 0))) (Sl.mk true 0 (fun _i3 => (Sl.mk true 0 (fun _i4 => (TIn.mk 0 0 0 0 0 0)))))) fun (y3 : R_f12) =>
 (.need (!y2.fst.nil) <|
 (.call con_f1e (0, y2.fst.x) fun (y4 : R_f1e) =>
 (.call con_f1e (1, y2.fst.x) fun (y5 : R_f1e) =>
 (.call con_fc ((TEv.mk 0 1 0 0 0), y2.fst.x) fun (y6 : R_fc) =>
 (.call con_fc ((TEv.mk 0 5 0 0 0), y2.fst.x) fun (y7 : R_fc) =>
 (.call con_f1f ((TEv.mk 0 1 0 0 0), y2.fst.x) fun (y8 : R_f1f) =>
 (.call con_f1f ((TEv.mk 0 1 0 0 0), y8.snd) fun (y9 : R_f1f) =>
 (.call con_f1f ((TEv.mk 0 2 0 0 0), y9.snd) fun (y10 : R_f1f) =>
 (.call con_f1f ((TEv.mk 0 5 0 0 0), y10.snd) fun (y11 : R_f1f) =>
 (.call con_f3 y11.snd fun (y12 : R_f3) =>
 (.call con_f31 PUnit.unit fun (y13 : R_f31) =>
 (.call con_f6 (y13, y12) fun (y14 : R_f6) =>
 (.call con_f24 ((TEv.mk 0 1 0 1 0), y11.snd) fun (y15 : R_f24) =>
 (.call con_f24 ((TEv.mk 0 12 0 0 0), y15.snd) fun (y16 : R_f24) =>
 (.ite (ieq y2.snd 0)
 (.ite (ieq y3.snd 1)
 (.ite (ieq y4.fst.Kind 1)
 (.ite (ieq y4.fst.Value 5)
 (.ite (ieq y4.snd 0)
 (.ite (ieq y5.snd 5)
 (.ite y6
 (.ite (!y7)
 (.ite (ieq y8.fst 0)
 (.ite (ieq y9.fst 11)
 (.ite (ieq y10.fst 0)
 (.ite (ieq y11.fst 0)
 (.ite (ieq ((y12.Threads.n : Nat) : Int) 1)
 (.need (inb 0 y12.Threads.n) <|
 (.ite (ieq ((y12.Threads.get (Int.toNat 0)).Regs (Int.toNat 2)) 1)
 (.ite (ieq ((y12.Rings.n : Nat) : Int) 1)
 (.need (inb 0 y12.Rings.n) <|
 (.ite (ieq (y12.Rings.get (Int.toNat 0)).Tail 1)
 (.ite (!y14.fst.nil)
 (.ite (ieq y14.snd 0)
 (.ite (ieq y15.fst 8)
 (.ite (ieq y16.fst 11)
 (.call con_f1b (0, y16.snd) fun (y17 : R_f1b) =>
 (.ite y17
 (.call con_f1c y16.snd fun (y18 : R_f1c) =>
 (.ite (!y18)
 (.call con_f1i y16.snd fun (y19 : R_f1i) =>
 (.ite (ieq y19 0)
 (.call con_f1d (0, y16.snd) fun (y20 : R_f1d) =>
 (.ret (ieq ((y20.n : Nat) : Int) 0)))
 (.ret false)))
 (.ret false)))
 (.ret false)))
 (.ret false))
 (.ret false))
 (.ret false))
 (.ret false))
 (.ret false)))
 (.ret false))
 (.ret false)))
 (.ret false))
 (.ret false))
 (.ret false))
 (.ret false))
 (.ret false))
 (.ret false))
 (.ret false))
 (.ret false))
 (.ret false))
 (.ret false))
 (.ret false))
 (.ret false))
 (.ret false)))))))))))))))))))
theorem sd_f2y (x : X_f2y) : (tt_f2y x).Sides :=
  (TT.sC fun _ => (TT.sC fun _ => (TT.sC fun _ => (TT.sN (TT.sC fun _ => (TT.sC fun _ => (TT.sC fun _ => (TT.sC fun _ => (TT.sC fun _ => (TT.sC fun _ => (TT.sC fun _ => (TT.sC fun _ => (TT.sC fun _ => (TT.sC fun _ => (TT.sC fun _ => (TT.sC fun _ => (TT.sC fun _ => (TT.sI (TT.sI (TT.sI (TT.sI (TT.sI (TT.sI (TT.sI (TT.sI (TT.sI (TT.sI (TT.sI (TT.sI (TT.sI (TT.sN (TT.sI (TT.sI (TT.sN (TT.sI (TT.sI (TT.sI (TT.sI (TT.sI (TT.sC fun _ => (TT.sI (TT.sC fun _ => (TT.sI (TT.sC fun _ => (TT.sI (TT.sC fun _ => TT.sR) TT.sR)) TT.sR)) TT.sR)) TT.sR) TT.sR) TT.sR) TT.sR) TT.sR)) TT.sR) TT.sR)) TT.sR) TT.sR) TT.sR) TT.sR) TT.sR) TT.sR) TT.sR) TT.sR) TT.sR) TT.sR) TT.sR) TT.sR) TT.sR))))))))))))))))))
noncomputable def D_f2y : Dyn X_f2y R_f2y := .of tt_f2y
noncomputable def con_f2y : Con Tryz.prog :=
  mkCon 18 J_f2y S_f2y D_f2y D_f2y (fun _ _ h => h) 0 0 [] (by kernel_rfl) (by kernel_rfl) (by kernel_rfl) (lbk mxk lbn 4000 (fun x => by kernel_rfl) sd_f2y) rfl rfl (fun _ => rfl) (by kernel_rfl) rfl (fun _ => rfl) (fun x y _ => by kernel_rfl)
abbrev X_f1h : Type := TPg × Int
abbrev R_f1h : Type := Bool
noncomputable def J_f1h : Job Tryz.prog :=
  job Tryz.prog Tryz.f11 43 [(2, 3)] [] [] [] [.any] [] [] R_f1h [] fun y => [V.bool y]
noncomputable def S_f1h : LabS :=
  lab0 Tryz.f11 2 0 X_f1h (fun x => [e_TPg x.1, (V.int .i64) x.2]) fun l => (d_TPg (at_ l 0), dI (at_ l 1))
structure X_f1h_3 where
  most_1 : Int
  p_2 : TPg
noncomputable def S_f1h_3 : LabS :=
  labAt Tryz.f11 3 [(1, .any), (2, .any)] [] [] X_f1h_3 (fun x => [(V.int .i64) x.most_1, (eVp e_TPg) x.p_2]) fun l => ⟨dI (at_ l 0), (dVp d_TPg) (at_ l 1)⟩
structure X_f1h_5 where
  most_1 : Int
  p_2 : TPg
  n_5 : Int
  i_6 : Int
noncomputable def S_f1h_5 : LabS :=
  labAt Tryz.f11 5 [(1, .any), (2, .any), (5, .any), (6, .any)] [] [] X_f1h_5 (fun x => [(V.int .i64) x.most_1, (eVp e_TPg) x.p_2, (V.int .i64) x.n_5, (V.int .i64) x.i_6]) fun l => ⟨dI (at_ l 0), (dVp d_TPg) (at_ l 1), dI (at_ l 2), dI (at_ l 3)⟩
noncomputable def tt_f1h_5 (D_f1h_5 : Dyn X_f1h_5 R_f1h) (x : X_f1h_5) : TT Tryz.prog R_f1h :=
 (.ite (ilt x.i_6 ((x.p_2.Threads.n : Nat) : Int))
 (.need (inb x.i_6 x.p_2.Threads.n) <|
 (.ite (ilt x.most_1 (((x.p_2.Threads.get (Int.toNat x.i_6)).n : Nat) : Int))
 (.ret false)
 (.need (inb x.i_6 x.p_2.Threads.n) <|
 (.jump S_f1h_5 D_f1h_5 (X_f1h_5.mk x.most_1 x.p_2 (IntKind.i64.wrap (x.n_5 + (((x.p_2.Threads.get (Int.toNat x.i_6)).n : Nat) : Int))) (IntKind.i64.wrap (x.i_6 + 1)))))))
 (.ret (ile x.n_5 x.most_1)))
theorem sd_f1h_5 (D_f1h_5 : Dyn X_f1h_5 R_f1h) (x : X_f1h_5) : (tt_f1h_5 D_f1h_5 x).Sides :=
  (TT.sI (TT.sN (TT.sI TT.sR (TT.sN TT.sJ))) TT.sR)
noncomputable def D_f1h_5 : Dyn X_f1h_5 R_f1h := Dyn.loop tt_f1h_5
theorem ok_f1h_5 : LabOK J_f1h S_f1h_5 D_f1h_5 :=
  loop_ok fun D_f1h_5 h_5 => lbk mxk (lbc h_5 rfl lbn) 4000 (fun x => by kernel_rfl) (sd_f1h_5 D_f1h_5)
noncomputable def tt_f1h_3 (x : X_f1h_3) : TT Tryz.prog R_f1h :=
 (.jump S_f1h_5 D_f1h_5 (X_f1h_5.mk x.most_1 x.p_2 0 0))
theorem sd_f1h_3 (x : X_f1h_3) : (tt_f1h_3 x).Sides :=
  TT.sJ
noncomputable def D_f1h_3 : Dyn X_f1h_3 R_f1h := .of tt_f1h_3
theorem ok_f1h_3 : LabOK J_f1h S_f1h_3 D_f1h_3 :=
  lbk mxk (lbc ok_f1h_5 rfl lbn) 4000 (fun x => by kernel_rfl) sd_f1h_3
noncomputable def tt_f1h (x : X_f1h) : TT Tryz.prog R_f1h :=
 (.ite (ilt 10 ((x.fst.Rings.n : Nat) : Int))
 (.ret false)
 (.ite (ilt 10 ((x.fst.Threads.n : Nat) : Int))
 (.ret false)
 (.jump S_f1h_3 D_f1h_3 (X_f1h_3.mk x.snd x.fst))))
theorem sd_f1h (x : X_f1h) : (tt_f1h x).Sides :=
  (TT.sI TT.sR (TT.sI TT.sR TT.sJ))
noncomputable def D_f1h : Dyn X_f1h R_f1h := .of tt_f1h
noncomputable def con_f1h : Con Tryz.prog :=
  mkCon 11 J_f1h S_f1h D_f1h D_f1h (fun _ _ h => h) 2 0 [sh_TPg, .any] (by kernel_rfl) (by kernel_rfl) (by kernel_rfl) (lbk mxk (lbc ok_f1h_5 rfl (lbc ok_f1h_3 rfl lbn)) 4000 (fun x => by kernel_rfl) sd_f1h) rfl rfl (fun _ => rfl) (by kernel_rfl) rfl (fun _ => rfl) (fun x y _ => by kernel_rfl)
abbrev X_f38 : Type := TRg
abbrev R_f38 : Type := Bool
noncomputable def J_f38 : Job Tryz.prog :=
  job Tryz.prog Tryz.f139 36 [(1, 3)] [] [] [] [.any] [] [] R_f38 [] fun y => [V.bool y]
noncomputable def S_f38 : LabS :=
  lab0 Tryz.f139 1 0 X_f38 (fun x => [e_TRg x]) fun l => (d_TRg (at_ l 0))
noncomputable def tt_f38 (x : X_f38) : TT Tryz.prog R_f38 :=
 (.ite (ile 1 x.Cap)
 (.ite (ile x.Cap 64)
 (.ite (ieq x.Kind 1)
 (.ite (ieq x.Readers 1)
 (.ret true)
 (.ite (ieq x.Kind 2)
 (.ite (ile 1 x.Readers)
 (.ret (ile x.Readers 8))
 (.ret false))
 (.ret false)))
 (.ite (ieq x.Kind 2)
 (.ite (ile 1 x.Readers)
 (.ret (ile x.Readers 8))
 (.ret false))
 (.ret false)))
 (.ret false))
 (.ret false))
theorem sd_f38 (x : X_f38) : (tt_f38 x).Sides :=
  (TT.sI (TT.sI (TT.sI (TT.sI TT.sR (TT.sI (TT.sI TT.sR TT.sR) TT.sR)) (TT.sI (TT.sI TT.sR TT.sR) TT.sR)) TT.sR) TT.sR)
noncomputable def D_f38 : Dyn X_f38 R_f38 := .of tt_f38
noncomputable def con_f38 : Con Tryz.prog :=
  mkCon 139 J_f38 S_f38 D_f38 D_f38 (fun _ _ h => h) 1 0 [.any] (by kernel_rfl) (by kernel_rfl) (by kernel_rfl) (lbk mxk lbn 4000 (fun x => by kernel_rfl) sd_f38) rfl rfl (fun _ => rfl) (by kernel_rfl) rfl (fun _ => rfl) (fun x y _ => by kernel_rfl)
abbrev X_f39 : Type := Int
abbrev R_f39 : Type := ByteArray
noncomputable def J_f39 : Job Tryz.prog :=
  job Tryz.prog Tryz.f178 53 [] [] [] [] [.any] [] [] R_f39 [] fun y => [V.str y]
noncomputable def S_f39 : LabS :=
  lab0 Tryz.f178 1 0 X_f39 (fun x => [(V.int .i64) x]) fun l => (dI (at_ l 0))
noncomputable def tt_f39 (x : X_f39) : TT Tryz.prog R_f39 :=
 (.ite (ieq x 1)
 (.ret (ByteArray.mk #[114, 48, 48, 48, 110]))
 (.ite (ieq x 2)
 (.ret (ByteArray.mk #[114, 114, 48, 48, 48]))
 (.ite (ieq x 23)
 (.ret (ByteArray.mk #[114, 114, 48, 48, 48]))
 (.ite (ile 3 x)
 (.ite (ile x 14)
 (.ret (ByteArray.mk #[114, 114, 114, 48, 48]))
 (.ite (ieq x 15)
 (.ret (ByteArray.mk #[48, 48, 48, 48, 112]))
 (.ite (ieq x 16)
 (.ret (ByteArray.mk #[114, 48, 48, 48, 112]))
 (.ite (ieq x 17)
 (.ret (ByteArray.mk #[114, 48, 48, 48, 112]))
 (.ite (ieq x 18)
 (.ret (ByteArray.mk #[114, 114, 103, 109, 48]))
 (.ite (ieq x 19)
 (.ret (ByteArray.mk #[114, 114, 103, 109, 100]))
 (.ite (ieq x 20)
 (.ret (ByteArray.mk #[48, 48, 103, 48, 48]))
 (.ite (ieq x 21)
 (.ret (ByteArray.mk #[114, 48, 48, 48, 48]))
 (.ite (ieq x 22)
 (.ret (ByteArray.mk #[114, 48, 48, 48, 48]))
 (.ite (ieq x 24)
 (.ret (ByteArray.mk #[114, 48, 48, 48, 48]))
 (.ite (ieq x 25)
 (.ret (ByteArray.mk #[48, 48, 48, 48, 48]))
 (.ret (ByteArray.mk #[])))))))))))))
 (.ite (ieq x 15)
 (.ret (ByteArray.mk #[48, 48, 48, 48, 112]))
 (.ite (ieq x 16)
 (.ret (ByteArray.mk #[114, 48, 48, 48, 112]))
 (.ite (ieq x 17)
 (.ret (ByteArray.mk #[114, 48, 48, 48, 112]))
 (.ite (ieq x 18)
 (.ret (ByteArray.mk #[114, 114, 103, 109, 48]))
 (.ite (ieq x 19)
 (.ret (ByteArray.mk #[114, 114, 103, 109, 100]))
 (.ite (ieq x 20)
 (.ret (ByteArray.mk #[48, 48, 103, 48, 48]))
 (.ite (ieq x 21)
 (.ret (ByteArray.mk #[114, 48, 48, 48, 48]))
 (.ite (ieq x 22)
 (.ret (ByteArray.mk #[114, 48, 48, 48, 48]))
 (.ite (ieq x 24)
 (.ret (ByteArray.mk #[114, 48, 48, 48, 48]))
 (.ite (ieq x 25)
 (.ret (ByteArray.mk #[48, 48, 48, 48, 48]))
 (.ret (ByteArray.mk #[]))))))))))))))))
theorem sd_f39 (x : X_f39) : (tt_f39 x).Sides :=
  (TT.sI TT.sR (TT.sI TT.sR (TT.sI TT.sR (TT.sI (TT.sI TT.sR (TT.sI TT.sR (TT.sI TT.sR (TT.sI TT.sR (TT.sI TT.sR (TT.sI TT.sR (TT.sI TT.sR (TT.sI TT.sR (TT.sI TT.sR (TT.sI TT.sR (TT.sI TT.sR TT.sR))))))))))) (TT.sI TT.sR (TT.sI TT.sR (TT.sI TT.sR (TT.sI TT.sR (TT.sI TT.sR (TT.sI TT.sR (TT.sI TT.sR (TT.sI TT.sR (TT.sI TT.sR (TT.sI TT.sR TT.sR))))))))))))))
noncomputable def D_f39 : Dyn X_f39 R_f39 := .of tt_f39
noncomputable def con_f39 : Con Tryz.prog :=
  mkCon 178 J_f39 S_f39 D_f39 D_f39 (fun _ _ h => h) 1 0 [.any] (by kernel_rfl) (by kernel_rfl) (by kernel_rfl) (lbk mxk lbn 4000 (fun x => by kernel_rfl) sd_f39) rfl rfl (fun _ => rfl) (by kernel_rfl) rfl (fun _ => rfl) (fun x y _ => by kernel_rfl)
abbrev X_f35 : Type := Int
abbrev R_f35 : Type := Int
noncomputable def J_f35 : Job Tryz.prog :=
  job Tryz.prog Tryz.f179 14 [] [] [] [] [.any] [] [] R_f35 [] fun y => [(V.int .u64) y]
noncomputable def S_f35 : LabS :=
  lab0 Tryz.f179 1 0 X_f35 (fun x => [(V.int .u8) x]) fun l => (dI (at_ l 0))
noncomputable def tt_f35 (x : X_f35) : TT Tryz.prog R_f35 :=
 (.ite (ieq x 114)
 (.ret 7)
 (.ite (ieq x 103)
 (.ret 7)
 (.ite (ieq x 100)
 (.ret 7)
 (.ite (ieq x 109)
 (.ret 2)
 (.ite (ieq x 112)
 (.ret 256)
 (.ite (ieq x 110)
 (.ret 18446744073709551615)
 (.ret 0)))))))
theorem sd_f35 (x : X_f35) : (tt_f35 x).Sides :=
  (TT.sI TT.sR (TT.sI TT.sR (TT.sI TT.sR (TT.sI TT.sR (TT.sI TT.sR (TT.sI TT.sR TT.sR))))))
noncomputable def D_f35 : Dyn X_f35 R_f35 := .of tt_f35
noncomputable def con_f35 : Con Tryz.prog :=
  mkCon 179 J_f35 S_f35 D_f35 D_f35 (fun _ _ h => h) 1 0 [.any] (by kernel_rfl) (by kernel_rfl) (by kernel_rfl) (lbk mxk lbn 4000 (fun x => by kernel_rfl) sd_f35) rfl rfl (fun _ => rfl) (by kernel_rfl) rfl (fun _ => rfl) (fun x y _ => by kernel_rfl)
abbrev Dsl_i64 : Type := (Sl Int)
def esl_i64 : Dsl_i64 → V := (eSl none 1 (V.int .i64))
def dsl_i64 : V → Dsl_i64 := (dSl dI)
def hsl_i64 : Sh := (.sl none 1 (V.int .i64 0))
abbrev X_fi : Type := TIn
abbrev R_fi : Type := Bool
noncomputable def J_fi : Job Tryz.prog :=
  job Tryz.prog Tryz.f140 49 [(1, 3)] [] [] [] [.any] [] [con_f39, con_f35] R_fi [] fun y => [V.bool y]
noncomputable def S_fi : LabS :=
  lab0 Tryz.f140 1 0 X_fi (fun x => [e_TIn x]) fun l => (d_TIn (at_ l 0))
structure X_fi_4 where
  i_1 : TIn
  f_3 : ByteArray
noncomputable def S_fi_4 : LabS :=
  labAt Tryz.f140 4 [(1, .any), (3, .any)] [] [] X_fi_4 (fun x => [(eVp e_TIn) x.i_1, V.str x.f_3]) fun l => ⟨(dVp d_TIn) (at_ l 0), dS (at_ l 1)⟩
structure X_fi_6 where
  f_3 : ByteArray
  l_4 : (Sl Int)
  k_5 : Int
noncomputable def S_fi_6 : LabS :=
  labAt Tryz.f140 6 [(3, .any), (4, hsl_i64), (5, .any)] [] [] X_fi_6 (fun x => [V.str x.f_3, esl_i64 x.l_4, (V.int .i64) x.k_5]) fun l => ⟨dS (at_ l 0), dsl_i64 (at_ l 1), dI (at_ l 2)⟩
structure X_fi_7 where
  f_3 : ByteArray
  l_4 : (Sl Int)
  k_5 : Int
noncomputable def S_fi_7 : LabS :=
  labAt Tryz.f140 7 [(3, .any), (4, hsl_i64), (5, .any)] [] [] X_fi_7 (fun x => [V.str x.f_3, esl_i64 x.l_4, (V.int .i64) x.k_5]) fun l => ⟨dS (at_ l 0), dsl_i64 (at_ l 1), dI (at_ l 2)⟩
noncomputable def tt_fi_7 (D_fi_6 : Dyn X_fi_6 R_fi) (x : X_fi_7) : TT Tryz.prog R_fi :=
 (.jump S_fi_6 D_fi_6 (X_fi_6.mk x.f_3 x.l_4 (IntKind.i64.wrap (x.k_5 + 1))))
theorem sd_fi_7 (D_fi_6 : Dyn X_fi_6 R_fi) (x : X_fi_7) : (tt_fi_7 D_fi_6 x).Sides :=
  TT.sJ
noncomputable def D_fi_7 (D_fi_6 : Dyn X_fi_6 R_fi) : Dyn X_fi_7 R_fi := .of (tt_fi_7 D_fi_6)
theorem ok_fi_7 (D_fi_6 : Dyn X_fi_6 R_fi) (h_6 : LabOK J_fi S_fi_6 D_fi_6) : LabOK J_fi S_fi_7 (D_fi_7 D_fi_6) :=
  lbk mxk (lbc h_6 rfl lbn) 4000 (fun x => by kernel_rfl) (sd_fi_7 D_fi_6)
noncomputable def tt_fi_6 (D_fi_6 : Dyn X_fi_6 R_fi) (x : X_fi_6) : TT Tryz.prog R_fi :=
 (.ite (ilt x.k_5 4)
 (.need (inb x.k_5 x.l_4.n) <|
 (.ite (ilt (x.l_4.get (Int.toNat x.k_5)) 0)
 (.ret false)
 (.need (inb x.k_5 x.l_4.n) <|
 (.need (inb x.k_5 (ByteArray.size x.f_3)) <|
 (.call con_f35 (bt x.f_3 (Int.toNat x.k_5)) fun (y2 : R_f35) =>
 (.ite (ilt y2 (IntKind.u64.wrap (x.l_4.get (Int.toNat x.k_5))))
 (.ret false)
 (.jump S_fi_7 (D_fi_7 D_fi_6) (X_fi_7.mk x.f_3 x.l_4 x.k_5))))))))
 (.ret true))
theorem sd_fi_6 (D_fi_6 : Dyn X_fi_6 R_fi) (x : X_fi_6) : (tt_fi_6 D_fi_6 x).Sides :=
  (TT.sI (TT.sN (TT.sI TT.sR (TT.sN (TT.sN (TT.sC fun _ => (TT.sI TT.sR TT.sJ)))))) TT.sR)
noncomputable def D_fi_6 : Dyn X_fi_6 R_fi := Dyn.loop tt_fi_6
theorem ok_fi_6 : LabOK J_fi S_fi_6 D_fi_6 :=
  loop_ok fun D_fi_6 h_6 => lbk mxk (lbc h_6 rfl (lbc (ok_fi_7 D_fi_6 h_6) rfl lbn)) 4000 (fun x => by kernel_rfl) (sd_fi_6 D_fi_6)
noncomputable def tt_fi_4 (x : X_fi_4) : TT Tryz.prog R_fi :=
 (.jump S_fi_6 D_fi_6 (X_fi_6.mk x.f_3 (Sl.mk false 4 (fun i1 => (cond (Nat.beq i1 0) x.i_1.A (cond (Nat.beq i1 1) x.i_1.B (cond (Nat.beq i1 2) x.i_1.C x.i_1.D))))) 0))
theorem sd_fi_4 (x : X_fi_4) : (tt_fi_4 x).Sides :=
  TT.sJ
noncomputable def D_fi_4 : Dyn X_fi_4 R_fi := .of tt_fi_4
theorem ok_fi_4 : LabOK J_fi S_fi_4 D_fi_4 :=
  lbk mxk (lbc ok_fi_6 rfl lbn) 4000 (fun x => by kernel_rfl) sd_fi_4
noncomputable def tt_fi (x : X_fi) : TT Tryz.prog R_fi :=
 (.call con_f39 x.Op fun (y1 : R_f39) =>
 (.ite (seq y1 (ByteArray.mk #[]))
 (.ret false)
 (.need (inb 4 (ByteArray.size y1)) <|
 (.call con_f35 (bt y1 (Int.toNat 4)) fun (y2 : R_f35) =>
 (.ite (ilt y2 x.K)
 (.ret false)
 (.jump S_fi_4 D_fi_4 (X_fi_4.mk x y1)))))))
theorem sd_fi (x : X_fi) : (tt_fi x).Sides :=
  (TT.sC fun _ => (TT.sI TT.sR (TT.sN (TT.sC fun _ => (TT.sI TT.sR TT.sJ)))))
noncomputable def D_fi : Dyn X_fi R_fi := .of tt_fi
noncomputable def con_fi : Con Tryz.prog :=
  mkCon 140 J_fi S_fi D_fi D_fi (fun _ _ h => h) 1 0 [.any] (by kernel_rfl) (by kernel_rfl) (by kernel_rfl) (lbk mxk (lbc ok_fi_6 rfl (lbc ok_fi_4 rfl lbn)) 4000 (fun x => by kernel_rfl) sd_fi) rfl rfl (fun _ => rfl) (by kernel_rfl) rfl (fun _ => rfl) (fun x y _ => by kernel_rfl)
abbrev X_f1v : Type := TPg × TIn × Int
abbrev R_f1v : Type := Int
noncomputable def J_f1v : Job Tryz.prog :=
  job Tryz.prog Tryz.f141 56 [(3, 3), (4, 3)] [] [] [] [.any] [] [] R_f1v [] fun y => [(V.int .i64) y]
noncomputable def S_f1v : LabS :=
  lab0 Tryz.f141 3 0 X_f1v (fun x => [e_TPg x.1, e_TIn x.2.1, (V.int .i64) x.2.2]) fun l => (d_TPg (at_ l 0), d_TIn (at_ l 1), dI (at_ l 2))
structure X_f1v_3 where
  p_3 : TPg
  i_4 : TIn
noncomputable def S_f1v_3 : LabS :=
  labAt Tryz.f141 3 [(3, .any), (4, .any)] [] [] X_f1v_3 (fun x => [(eVp e_TPg) x.p_3, (eVp e_TIn) x.i_4]) fun l => ⟨(dVp d_TPg) (at_ l 0), (dVp d_TIn) (at_ l 1)⟩
noncomputable def tt_f1v_3 (x : X_f1v_3) : TT Tryz.prog R_f1v :=
 (.ite (ile 18 x.i_4.Op)
 (.ite (ile x.i_4.Op 20)
 (.ite (ile ((x.p_3.Rings.n : Nat) : Int) x.i_4.C)
 (.ret 7)
 (.ite (ieq x.i_4.Op 19)
 (.need (inb x.i_4.C x.p_3.Rings.n) <|
 (.ite (ile (IntKind.u64.wrap (x.p_3.Rings.get (Int.toNat x.i_4.C)).Readers) x.i_4.K)
 (.ret 7)
 (.ret 0)))
 (.ret 0)))
 (.ite (ieq x.i_4.Op 19)
 (.need (inb x.i_4.C x.p_3.Rings.n) <|
 (.ite (ile (IntKind.u64.wrap (x.p_3.Rings.get (Int.toNat x.i_4.C)).Readers) x.i_4.K)
 (.ret 7)
 (.ret 0)))
 (.ret 0)))
 (.ite (ieq x.i_4.Op 19)
 (.need (inb x.i_4.C x.p_3.Rings.n) <|
 (.ite (ile (IntKind.u64.wrap (x.p_3.Rings.get (Int.toNat x.i_4.C)).Readers) x.i_4.K)
 (.ret 7)
 (.ret 0)))
 (.ret 0)))
theorem sd_f1v_3 (x : X_f1v_3) : (tt_f1v_3 x).Sides :=
  (TT.sI (TT.sI (TT.sI TT.sR (TT.sI (TT.sN (TT.sI TT.sR TT.sR)) TT.sR)) (TT.sI (TT.sN (TT.sI TT.sR TT.sR)) TT.sR)) (TT.sI (TT.sN (TT.sI TT.sR TT.sR)) TT.sR))
noncomputable def D_f1v_3 : Dyn X_f1v_3 R_f1v := .of tt_f1v_3
theorem ok_f1v_3 : LabOK J_f1v S_f1v_3 D_f1v_3 :=
  lbk mxk lbn 4000 (fun x => by kernel_rfl) sd_f1v_3
noncomputable def tt_f1v (x : X_f1v) : TT Tryz.prog R_f1v :=
 (.ite (ile 15 x.snd.fst.Op)
 (.ite (ile x.snd.fst.Op 17)
 (.ite (ilt (IntKind.u64.wrap x.snd.snd) x.snd.fst.K)
 (.ret 5)
 (.jump S_f1v_3 D_f1v_3 (X_f1v_3.mk x.fst x.snd.fst)))
 (.jump S_f1v_3 D_f1v_3 (X_f1v_3.mk x.fst x.snd.fst)))
 (.jump S_f1v_3 D_f1v_3 (X_f1v_3.mk x.fst x.snd.fst)))
theorem sd_f1v (x : X_f1v) : (tt_f1v x).Sides :=
  (TT.sI (TT.sI (TT.sI TT.sR TT.sJ) TT.sJ) TT.sJ)
noncomputable def D_f1v : Dyn X_f1v R_f1v := .of tt_f1v
noncomputable def con_f1v : Con Tryz.prog :=
  mkCon 141 J_f1v S_f1v D_f1v D_f1v (fun _ _ h => h) 3 0 [sh_TPg, .any, .any] (by kernel_rfl) (by kernel_rfl) (by kernel_rfl) (lbk mxk (lbc ok_f1v_3 rfl lbn) 4000 (fun x => by kernel_rfl) sd_f1v) rfl rfl (fun _ => rfl) (by kernel_rfl) rfl (fun _ => rfl) (fun x y _ => by kernel_rfl)
abbrev X_f4 : Type := TPg
abbrev R_f4 : Type := Int × Int × Int
noncomputable def J_f4 : Job Tryz.prog :=
  job Tryz.prog Tryz.f89 81 [(1, 3)] [] [] [] [.any, .any, .any] [] [con_fi, con_f1v, con_f38] R_f4 [] fun y => [V.tup (V.cons ((V.int .i64) y.1) (V.cons ((V.int .i64) y.2.1) (V.cons ((V.int .i64) y.2.2) (V.unit))))]
noncomputable def S_f4 : LabS :=
  lab0 Tryz.f89 1 0 X_f4 (fun x => [e_TPg x]) fun l => (d_TPg (at_ l 0))
structure X_f4_3 where
  p_1 : TPg
noncomputable def S_f4_3 : LabS :=
  labAt Tryz.f89 3 [(1, .any)] [] [] X_f4_3 (fun x => [(eVp e_TPg) x.p_1]) fun l => ⟨(dVp d_TPg) (at_ l 0)⟩
structure X_f4_4 where
  p_1 : TPg
  i_5 : Int
noncomputable def S_f4_4 : LabS :=
  labAt Tryz.f89 4 [(1, .any), (5, .any)] [] [] X_f4_4 (fun x => [(eVp e_TPg) x.p_1, (V.int .i64) x.i_5]) fun l => ⟨(dVp d_TPg) (at_ l 0), dI (at_ l 1)⟩
structure X_f4_8 where
  p_1 : TPg
noncomputable def S_f4_8 : LabS :=
  labAt Tryz.f89 8 [(1, .any)] [] [] X_f4_8 (fun x => [(eVp e_TPg) x.p_1]) fun l => ⟨(dVp d_TPg) (at_ l 0)⟩
structure X_f4_9 where
  p_1 : TPg
  t_6 : Int
noncomputable def S_f4_9 : LabS :=
  labAt Tryz.f89 9 [(1, .any), (6, .any)] [] [] X_f4_9 (fun x => [(eVp e_TPg) x.p_1, (V.int .i64) x.t_6]) fun l => ⟨(dVp d_TPg) (at_ l 0), dI (at_ l 1)⟩
structure X_f4_10 where
  p_1 : TPg
  t_6 : Int
noncomputable def S_f4_10 : LabS :=
  labAt Tryz.f89 10 [(1, .any), (6, .any)] [] [] X_f4_10 (fun x => [(eVp e_TPg) x.p_1, (V.int .i64) x.t_6]) fun l => ⟨(dVp d_TPg) (at_ l 0), dI (at_ l 1)⟩
structure X_f4_15 where
  p_1 : TPg
  t_6 : Int
  l_7 : (Sl TIn)
  k_8 : Int
noncomputable def S_f4_15 : LabS :=
  labAt Tryz.f89 15 [(1, .any), (6, .any), (7, hsl_TIn), (8, .any)] [] [] X_f4_15 (fun x => [(eVp e_TPg) x.p_1, (V.int .i64) x.t_6, esl_TIn x.l_7, (V.int .i64) x.k_8]) fun l => ⟨(dVp d_TPg) (at_ l 0), dI (at_ l 1), dsl_TIn (at_ l 2), dI (at_ l 3)⟩
structure X_f4_16 where
  p_1 : TPg
  t_6 : Int
  l_7 : (Sl TIn)
  k_8 : Int
noncomputable def S_f4_16 : LabS :=
  labAt Tryz.f89 16 [(1, .any), (6, .any), (7, hsl_TIn), (8, .any)] [] [] X_f4_16 (fun x => [(eVp e_TPg) x.p_1, (V.int .i64) x.t_6, esl_TIn x.l_7, (V.int .i64) x.k_8]) fun l => ⟨(dVp d_TPg) (at_ l 0), dI (at_ l 1), dsl_TIn (at_ l 2), dI (at_ l 3)⟩
structure X_f4_20 where
  p_1 : TPg
  t_6 : Int
  l_7 : (Sl TIn)
  k_8 : Int
  e_9 : Int
noncomputable def S_f4_20 : LabS :=
  labAt Tryz.f89 20 [(1, .any), (6, .any), (7, hsl_TIn), (8, .any), (9, .any)] [] [] X_f4_20 (fun x => [(eVp e_TPg) x.p_1, (V.int .i64) x.t_6, esl_TIn x.l_7, (V.int .i64) x.k_8, (V.int .i64) x.e_9]) fun l => ⟨(dVp d_TPg) (at_ l 0), dI (at_ l 1), dsl_TIn (at_ l 2), dI (at_ l 3), dI (at_ l 4)⟩
noncomputable def tt_f4_10 (D_f4_9 : Dyn X_f4_9 R_f4) (x : X_f4_10) : TT Tryz.prog R_f4 :=
 (.jump S_f4_9 D_f4_9 (X_f4_9.mk x.p_1 (IntKind.i64.wrap (x.t_6 + 1))))
theorem sd_f4_10 (D_f4_9 : Dyn X_f4_9 R_f4) (x : X_f4_10) : (tt_f4_10 D_f4_9 x).Sides :=
  TT.sJ
noncomputable def D_f4_10 (D_f4_9 : Dyn X_f4_9 R_f4) : Dyn X_f4_10 R_f4 := .of (tt_f4_10 D_f4_9)
theorem ok_f4_10 (D_f4_9 : Dyn X_f4_9 R_f4) (h_9 : LabOK J_f4 S_f4_9 D_f4_9) : LabOK J_f4 S_f4_10 (D_f4_10 D_f4_9) :=
  lbk mxk (lbc h_9 rfl lbn) 4000 (fun x => by kernel_rfl) (sd_f4_10 D_f4_9)
noncomputable def tt_f4_16 (_D_f4_9 : Dyn X_f4_9 R_f4) (D_f4_15 : Dyn X_f4_15 R_f4) (x : X_f4_16) : TT Tryz.prog R_f4 :=
 (.jump S_f4_15 D_f4_15 (X_f4_15.mk x.p_1 x.t_6 x.l_7 (IntKind.i64.wrap (x.k_8 + 1))))
theorem sd_f4_16 (D_f4_9 : Dyn X_f4_9 R_f4) (D_f4_15 : Dyn X_f4_15 R_f4) (x : X_f4_16) : (tt_f4_16 D_f4_9 D_f4_15 x).Sides :=
  TT.sJ
noncomputable def D_f4_16 (D_f4_9 : Dyn X_f4_9 R_f4) (D_f4_15 : Dyn X_f4_15 R_f4) : Dyn X_f4_16 R_f4 := .of (tt_f4_16 D_f4_9 D_f4_15)
theorem ok_f4_16 (D_f4_9 : Dyn X_f4_9 R_f4) (D_f4_15 : Dyn X_f4_15 R_f4) (h_9 : LabOK J_f4 S_f4_9 D_f4_9) (h_15 : LabOK J_f4 S_f4_15 D_f4_15) : LabOK J_f4 S_f4_16 (D_f4_16 D_f4_9 D_f4_15) :=
  lbk mxk (lbc h_9 rfl (lbc h_15 rfl (lbc (ok_f4_10 D_f4_9 h_9) rfl lbn))) 4000 (fun x => by kernel_rfl) (sd_f4_16 D_f4_9 D_f4_15)
noncomputable def tt_f4_20 (D_f4_9 : Dyn X_f4_9 R_f4) (D_f4_15 : Dyn X_f4_15 R_f4) (x : X_f4_20) : TT Tryz.prog R_f4 :=
 (.ite (!(ieq x.e_9 0))
 (.ret (x.t_6, (x.k_8, x.e_9)))
 (.jump S_f4_16 (D_f4_16 D_f4_9 D_f4_15) (X_f4_16.mk x.p_1 x.t_6 x.l_7 x.k_8)))
theorem sd_f4_20 (D_f4_9 : Dyn X_f4_9 R_f4) (D_f4_15 : Dyn X_f4_15 R_f4) (x : X_f4_20) : (tt_f4_20 D_f4_9 D_f4_15 x).Sides :=
  (TT.sI TT.sR TT.sJ)
noncomputable def D_f4_20 (D_f4_9 : Dyn X_f4_9 R_f4) (D_f4_15 : Dyn X_f4_15 R_f4) : Dyn X_f4_20 R_f4 := .of (tt_f4_20 D_f4_9 D_f4_15)
theorem ok_f4_20 (D_f4_9 : Dyn X_f4_9 R_f4) (D_f4_15 : Dyn X_f4_15 R_f4) (h_9 : LabOK J_f4 S_f4_9 D_f4_9) (h_15 : LabOK J_f4 S_f4_15 D_f4_15) : LabOK J_f4 S_f4_20 (D_f4_20 D_f4_9 D_f4_15) :=
  lbk mxk (lbc h_9 rfl (lbc h_15 rfl (lbc (ok_f4_10 D_f4_9 h_9) rfl (lbc (ok_f4_16 D_f4_9 D_f4_15 h_9 h_15) rfl lbn)))) 4000 (fun x => by kernel_rfl) (sd_f4_20 D_f4_9 D_f4_15)
noncomputable def tt_f4_15 (D_f4_9 : Dyn X_f4_9 R_f4) (D_f4_15 : Dyn X_f4_15 R_f4) (x : X_f4_15) : TT Tryz.prog R_f4 :=
 (.ite (ilt x.k_8 ((x.l_7.n : Nat) : Int))
 (.need (inb x.k_8 x.l_7.n) <|
 (.call con_fi (x.l_7.get (Int.toNat x.k_8)) fun (y3 : R_fi) =>
 (.ite y3
 (.need (inb x.k_8 x.l_7.n) <|
 (.call con_f1v (x.p_1, ((x.l_7.get (Int.toNat x.k_8)), ((x.l_7.n : Nat) : Int))) fun (y4 : R_f1v) =>
 (.jump S_f4_20 (D_f4_20 D_f4_9 D_f4_15) (X_f4_20.mk x.p_1 x.t_6 x.l_7 x.k_8 y4))))
 (.jump S_f4_20 (D_f4_20 D_f4_9 D_f4_15) (X_f4_20.mk x.p_1 x.t_6 x.l_7 x.k_8 6)))))
 (.jump S_f4_10 (D_f4_10 D_f4_9) (X_f4_10.mk x.p_1 x.t_6)))
theorem sd_f4_15 (D_f4_9 : Dyn X_f4_9 R_f4) (D_f4_15 : Dyn X_f4_15 R_f4) (x : X_f4_15) : (tt_f4_15 D_f4_9 D_f4_15 x).Sides :=
  (TT.sI (TT.sN (TT.sC fun _ => (TT.sI (TT.sN (TT.sC fun _ => TT.sJ)) TT.sJ))) TT.sJ)
noncomputable def D_f4_15 (D_f4_9 : Dyn X_f4_9 R_f4) : Dyn X_f4_15 R_f4 := Dyn.loop (tt_f4_15 D_f4_9)
theorem ok_f4_15 (D_f4_9 : Dyn X_f4_9 R_f4) (h_9 : LabOK J_f4 S_f4_9 D_f4_9) : LabOK J_f4 S_f4_15 (D_f4_15 D_f4_9) :=
  loop_ok fun D_f4_15 h_15 => lbk mxk (lbc h_9 rfl (lbc h_15 rfl (lbc (ok_f4_10 D_f4_9 h_9) rfl (lbc (ok_f4_16 D_f4_9 D_f4_15 h_9 h_15) rfl (lbc (ok_f4_20 D_f4_9 D_f4_15 h_9 h_15) rfl lbn))))) 4000 (fun x => by kernel_rfl) (sd_f4_15 D_f4_9 D_f4_15)
noncomputable def tt_f4_9 (D_f4_9 : Dyn X_f4_9 R_f4) (x : X_f4_9) : TT Tryz.prog R_f4 :=
 (.ite (ilt x.t_6 ((x.p_1.Threads.n : Nat) : Int))
 (.need (inb x.t_6 x.p_1.Threads.n) <|
 (.ite (ilt 256 (((x.p_1.Threads.get (Int.toNat x.t_6)).n : Nat) : Int))
 (.ret (x.t_6, (256, 4)))
 (.jump S_f4_15 (D_f4_15 D_f4_9) (X_f4_15.mk x.p_1 x.t_6 (x.p_1.Threads.get (Int.toNat x.t_6)) 0))))
 (.ret (0, (0, 0))))
theorem sd_f4_9 (D_f4_9 : Dyn X_f4_9 R_f4) (x : X_f4_9) : (tt_f4_9 D_f4_9 x).Sides :=
  (TT.sI (TT.sN (TT.sI TT.sR TT.sJ)) TT.sR)
noncomputable def D_f4_9 : Dyn X_f4_9 R_f4 := Dyn.loop tt_f4_9
theorem ok_f4_9 : LabOK J_f4 S_f4_9 D_f4_9 :=
  loop_ok fun D_f4_9 h_9 => lbk mxk (lbc h_9 rfl (lbc (ok_f4_10 D_f4_9 h_9) rfl (lbc (ok_f4_15 D_f4_9 h_9) rfl lbn))) 4000 (fun x => by kernel_rfl) (sd_f4_9 D_f4_9)
noncomputable def tt_f4_8 (x : X_f4_8) : TT Tryz.prog R_f4 :=
 (.jump S_f4_9 D_f4_9 (X_f4_9.mk x.p_1 0))
theorem sd_f4_8 (x : X_f4_8) : (tt_f4_8 x).Sides :=
  TT.sJ
noncomputable def D_f4_8 : Dyn X_f4_8 R_f4 := .of tt_f4_8
theorem ok_f4_8 : LabOK J_f4 S_f4_8 D_f4_8 :=
  lbk mxk (lbc ok_f4_9 rfl lbn) 4000 (fun x => by kernel_rfl) sd_f4_8
noncomputable def tt_f4_4 (D_f4_4 : Dyn X_f4_4 R_f4) (x : X_f4_4) : TT Tryz.prog R_f4 :=
 (.ite (ilt x.i_5 ((x.p_1.Rings.n : Nat) : Int))
 (.need (inb x.i_5 x.p_1.Rings.n) <|
 (.call con_f38 (x.p_1.Rings.get (Int.toNat x.i_5)) fun (y2 : R_f38) =>
 (.ite (!y2)
 (.ret ((-(1 : Int)), (x.i_5, 7)))
 (.jump S_f4_4 D_f4_4 (X_f4_4.mk x.p_1 (IntKind.i64.wrap (x.i_5 + 1)))))))
 (.jump S_f4_8 D_f4_8 (X_f4_8.mk x.p_1)))
theorem sd_f4_4 (D_f4_4 : Dyn X_f4_4 R_f4) (x : X_f4_4) : (tt_f4_4 D_f4_4 x).Sides :=
  (TT.sI (TT.sN (TT.sC fun _ => (TT.sI TT.sR TT.sJ))) TT.sJ)
noncomputable def D_f4_4 : Dyn X_f4_4 R_f4 := Dyn.loop tt_f4_4
theorem ok_f4_4 : LabOK J_f4 S_f4_4 D_f4_4 :=
  loop_ok fun D_f4_4 h_4 => lbk mxk (lbc h_4 rfl (lbc ok_f4_9 rfl (lbc ok_f4_8 rfl lbn))) 4000 (fun x => by kernel_rfl) (sd_f4_4 D_f4_4)
noncomputable def tt_f4_3 (x : X_f4_3) : TT Tryz.prog R_f4 :=
 (.jump S_f4_4 D_f4_4 (X_f4_4.mk x.p_1 0))
theorem sd_f4_3 (x : X_f4_3) : (tt_f4_3 x).Sides :=
  TT.sJ
noncomputable def D_f4_3 : Dyn X_f4_3 R_f4 := .of tt_f4_3
theorem ok_f4_3 : LabOK J_f4 S_f4_3 D_f4_3 :=
  lbk mxk (lbc ok_f4_9 rfl (lbc ok_f4_8 rfl (lbc ok_f4_4 rfl lbn))) 4000 (fun x => by kernel_rfl) sd_f4_3
noncomputable def tt_f4 (x : X_f4) : TT Tryz.prog R_f4 :=
 (.ite (ieq ((x.Threads.n : Nat) : Int) 0)
 (.ret (0, (0, 1)))
 (.ite (ilt 8 ((x.Threads.n : Nat) : Int))
 (.ret (0, (0, 1)))
 (.ite (ilt 8 ((x.Rings.n : Nat) : Int))
 (.ret (0, (0, 1)))
 (.jump S_f4_3 D_f4_3 (X_f4_3.mk x)))))
theorem sd_f4 (x : X_f4) : (tt_f4 x).Sides :=
  (TT.sI TT.sR (TT.sI TT.sR (TT.sI TT.sR TT.sJ)))
noncomputable def D_f4 : Dyn X_f4 R_f4 := .of tt_f4
noncomputable def con_f4 : Con Tryz.prog :=
  mkCon 89 J_f4 S_f4 D_f4 D_f4 (fun _ _ h => h) 1 0 [sh_TPg] (by kernel_rfl) (by kernel_rfl) (by kernel_rfl) (lbk mxk (lbc ok_f4_9 rfl (lbc ok_f4_8 rfl (lbc ok_f4_4 rfl (lbc ok_f4_3 rfl lbn)))) 4000 (fun x => by kernel_rfl) sd_f4) rfl rfl (fun _ => rfl) (by kernel_rfl) rfl (fun _ => rfl) (fun x y _ => by kernel_rfl)
abbrev X_f33 : Type := TPg
abbrev R_f33 : Type := Bool
noncomputable def J_f33 : Job Tryz.prog :=
  job Tryz.prog Tryz.f41 14 [(1, 3), (6, 1)] [] [] [] [.any] [] [con_f4] R_f33 [] fun y => [V.bool y]
noncomputable def S_f33 : LabS :=
  lab0 Tryz.f41 1 0 X_f33 (fun x => [e_TPg x]) fun l => (d_TPg (at_ l 0))
noncomputable def tt_f33 (x : X_f33) : TT Tryz.prog R_f33 :=
 (.call con_f4 x fun (y1 : R_f4) =>
 (.ret (ieq y1.snd.snd 0)))
theorem sd_f33 (x : X_f33) : (tt_f33 x).Sides :=
  (TT.sC fun _ => TT.sR)
noncomputable def D_f33 : Dyn X_f33 R_f33 := .of tt_f33
noncomputable def con_f33 : Con Tryz.prog :=
  mkCon 41 J_f33 S_f33 D_f33 D_f33 (fun _ _ h => h) 1 0 [sh_TPg] (by kernel_rfl) (by kernel_rfl) (by kernel_rfl) (lbk mxk lbn 4000 (fun x => by kernel_rfl) sd_f33) rfl rfl (fun _ => rfl) (by kernel_rfl) rfl (fun _ => rfl) (fun x y _ => by kernel_rfl)
abbrev X_f34 : Type := TPg
abbrev R_f34 : Type := Bool
noncomputable def J_f34 : Job Tryz.prog :=
  job Tryz.prog Tryz.f13 5 [(1, 3)] [] [] [] [.any] [] [con_f33] R_f34 [] fun y => [V.bool y]
noncomputable def S_f34 : LabS :=
  lab0 Tryz.f13 1 0 X_f34 (fun x => [e_TPg x]) fun l => (d_TPg (at_ l 0))
noncomputable def tt_f34 (x : X_f34) : TT Tryz.prog R_f34 :=
 (.call con_f33 x fun (y1 : R_f33) =>
 (.ret y1))
theorem sd_f34 (x : X_f34) : (tt_f34 x).Sides :=
  (TT.sC fun _ => TT.sR)
noncomputable def D_f34 : Dyn X_f34 R_f34 := .of tt_f34
noncomputable def con_f34 : Con Tryz.prog :=
  mkCon 13 J_f34 S_f34 D_f34 D_f34 (fun _ _ h => h) 1 0 [sh_TPg] (by kernel_rfl) (by kernel_rfl) (by kernel_rfl) (lbk mxk lbn 4000 (fun x => by kernel_rfl) sd_f34) rfl rfl (fun _ => rfl) (by kernel_rfl) rfl (fun _ => rfl) (fun x y _ => by kernel_rfl)
abbrev X_f3c : Type := TPg
abbrev R_f3c : Type := Bool
noncomputable def J_f3c : Job Tryz.prog :=
  job Tryz.prog Tryz.f19 9 [(1, 3)] [] [] [] [.any] [] [con_f1h, con_f34] R_f3c [] fun y => [V.bool y]
noncomputable def S_f3c : LabS :=
  lab0 Tryz.f19 1 0 X_f3c (fun x => [e_TPg x]) fun l => (d_TPg (at_ l 0))
noncomputable def tt_f3c (x : X_f3c) : TT Tryz.prog R_f3c :=
 (.call con_f1h (x, 100) fun (y1 : R_f1h) =>
 (.ite y1
 (.call con_f34 x fun (y2 : R_f34) =>
 (.ret y2))
 (.ret false)))
theorem sd_f3c (x : X_f3c) : (tt_f3c x).Sides :=
  (TT.sC fun _ => (TT.sI (TT.sC fun _ => TT.sR) TT.sR))
noncomputable def D_f3c : Dyn X_f3c R_f3c := .of tt_f3c
noncomputable def con_f3c : Con Tryz.prog :=
  mkCon 19 J_f3c S_f3c D_f3c D_f3c (fun _ _ h => h) 1 0 [sh_TPg] (by kernel_rfl) (by kernel_rfl) (by kernel_rfl) (lbk mxk lbn 4000 (fun x => by kernel_rfl) sd_f3c) rfl rfl (fun _ => rfl) (by kernel_rfl) rfl (fun _ => rfl) (fun x y _ => by kernel_rfl)
abbrev X_fe : Type := Int × TFa
abbrev R_fe : Type := (Bx TRr)
abbrev RR_fe : Type := (Bx TRr) × TFa
abbrev p_fe (y : RR_fe) : TFa := y.2
abbrev w_fe (x : X_fe) : TFa := x.2
noncomputable def J_fe : Job Tryz.prog :=
  job Tryz.prog Tryz.f34 43 [(22, 1), (42, 1)] [(2, [.back (.loc 18 0)]), (3, [.back (.loc 18 0)]), (4, [.back (.loc 37 0), .back (.loc 34 0), .back (.loc 18 0)])] [(3, [.opn (.par 0) [.fld 2 3] 34])] [.back (.loc 37 0), .back (.loc 34 0), .back (.loc 18 0), .shut 4] [hbox_TRr] [sh_TFa] [con_fb, con_f18] RR_fe [(0, [⟨.loc 34 0, .par 0, [.fld 2 3], none, none⟩]), (3, [⟨.loc 34 0, .par 0, [.fld 2 3], none, none⟩])] fun y => [ebox_TRr y.1, e_TFa y.2]
noncomputable def S_fe : LabS :=
  lab0 Tryz.f34 2 1 X_fe (fun x => [(V.ptr (.par 0) []), (V.int .i64) x.1, e_TFa x.2]) fun l => (dI (at_ l 1), d_TFa (at_ l 2))
structure X_fe_3 where
  i_1 : Int
  o_0 : TFa
noncomputable def S_fe_3 : LabS :=
  labAt Tryz.f34 3 [(0, .any), (1, .any)] [sh_TFa] [] X_fe_3 (fun x => [(V.ptr (.par 0) []), (V.int .i64) x.i_1, e_TFa x.o_0]) fun l => ⟨dI (at_ l 1), d_TFa (at_ l 2)⟩
abbrev w_fe_3 (x : X_fe_3) : TFa := (x.o_0)
noncomputable def tt_fe_3 (x : X_fe_3) : TT Tryz.prog RR_fe :=
 (.need (inb x.i_1 x.o_0.p.Rings.n) <|
 (.need (inb x.i_1 x.o_0.rings.n) <|
 (.need (((Nat.beq x.o_0.rings.n x.o_0.rings.n) && true) && (!(x.o_0.rings.get ((0 : Nat) + (Int.toNat x.i_1))).nil)) <|
 (.call con_f18 (x.o_0.rings.get ((0 : Nat) + (Int.toNat x.i_1))).x fun (y1 : R_f18) =>
 (.call con_fb ((x.o_0.p.Rings.get (Int.toNat x.i_1)), y1) fun (y2 : R_fb) =>
 (.need ((true && true) && (((Nat.beq x.o_0.rings.n x.o_0.rings.n) && (Nat.blt ((0 : Nat) + (Int.toNat x.i_1)) x.o_0.rings.n)) && (!(x.o_0.rings.get ((0 : Nat) + (Int.toNat x.i_1))).nil))) <|
 (.side (((fun v : Nat → V => v = v) (fun i3 => (cond (Nat.beq i3 ((0 : Nat) + (Int.toNat x.i_1))) (V.ptr (Id.loc 37 0) List.nil) (V.obox (x.o_0.rings.get i3).nil (e_TRr (x.o_0.rings.get i3).x))))) ∧ (((fun v : V => v = v) (e_TRr (x.o_0.rings.get ((0 : Nat) + (Int.toNat x.i_1))).x)) ∧ ((fun v : V => v = v) (V.obox (x.o_0.rings.get ((0 : Nat) + (Int.toNat x.i_1))).nil (e_TRr (x.o_0.rings.get ((0 : Nat) + (Int.toNat x.i_1))).x))))) <|
 (.need ((true && true) && (Nat.beq x.o_0.rings.n x.o_0.rings.n)) <|
 (.ret (y2.fst, x.o_0))))))))))
theorem sd_fe_3 (x : X_fe_3) : (tt_fe_3 x).Sides :=
  (TT.sN (TT.sN (TT.sN (TT.sC fun _ => (TT.sC fun _ => (TT.sN (TT.sS ⟨rfl, ⟨rfl, rfl⟩⟩ (TT.sN TT.sR))))))))
theorem roT_fe_3 (x : X_fe_3) : TT.Ro p_fe (w_fe_3 x) (tt_fe_3 x) :=
  (TT.rN (TT.rN (TT.rN (TT.rC fun _ => (TT.rC fun _ => (TT.rN (TT.rS (TT.rN (TT.rR rfl)))))))))
noncomputable def D_fe_3 : Dyn X_fe_3 RR_fe := .of tt_fe_3
theorem ok_fe_3 : LabOK J_fe S_fe_3 D_fe_3 :=
  lbk mxk lbn 4000 (fun x => by kernel_rfl) sd_fe_3
theorem ro_fe_3 : ∀ x y, D_fe_3.rel x y → p_fe y = w_fe_3 x :=
  roT_fe_3 
noncomputable def tt_fe (x : X_fe) : TT Tryz.prog RR_fe :=
 (.ite (ilt x.fst 0)
 (.ret ((Bx.mk true (TRr.mk (TRc.mk 0 (Sl.mk true 0 (fun _i1 => (0 : Int)))) (Bx.mk true (TSs.mk (Sl.mk true 0 (fun _i1 => (TSo.mk 0 0 0))) 0)) 0 false)), x.snd))
 (.ite (ile ((x.snd.rings.n : Nat) : Int) x.fst)
 (.need ((true && true) && (Nat.beq x.snd.rings.n x.snd.rings.n)) <|
 (.ret ((Bx.mk true (TRr.mk (TRc.mk 0 (Sl.mk true 0 (fun _i1 => (0 : Int)))) (Bx.mk true (TSs.mk (Sl.mk true 0 (fun _i1 => (TSo.mk 0 0 0))) 0)) 0 false)), x.snd)))
 (.need ((true && true) && (Nat.beq x.snd.rings.n x.snd.rings.n)) <|
 (.jump S_fe_3 D_fe_3 (X_fe_3.mk x.fst x.snd)))))
theorem sd_fe (x : X_fe) : (tt_fe x).Sides :=
  (TT.sI TT.sR (TT.sI (TT.sN TT.sR) (TT.sN TT.sJ)))
theorem roT_fe (x : X_fe) : TT.Ro p_fe (w_fe x) (tt_fe x) :=
  (TT.rI (TT.rR rfl) (TT.rI (TT.rN (TT.rR rfl)) (TT.rN (TT.rJ (ro_fe_3 _)))))
noncomputable def D_fe : Dyn X_fe R_fe := .ro (.of tt_fe) (fun y => (y.1)) (fun y x => (y, x.2)) fun x y h => congrArg (fun o => (y.1, o)) (roT_fe x y h)
noncomputable def con_fe : Con Tryz.prog :=
  mkConP 34 J_fe S_fe (.of tt_fe) D_fe (fun y x => (y, x.2)) (fun _ _ h => h) (fun y => ebox_TRr y) 2 1 [.any, .any] (by kernel_rfl) (by kernel_rfl) (by kernel_rfl) (lbk mxk (lbc ok_fe_3 rfl lbn) 4000 (fun x => by kernel_rfl) sd_fe) rfl rfl (fun _ => rfl) (by kernel_rfl) rfl (fun _ _ => rfl) (fun _ => rfl) (fun x => ⟨(nu_e_TFa : ∀ y, (e_TFa y).NoU) (x.2), trivial⟩)
abbrev X_f1x : Type := (Sl Int) × (Sl Int)
abbrev R_f1x : Type := Bool
noncomputable def J_f1x : Job Tryz.prog :=
  job Tryz.prog Tryz.f25 26 [] [] [] [] [.any] [] [] R_f1x [] fun y => [V.bool y]
noncomputable def S_f1x : LabS :=
  lab0 Tryz.f25 2 0 X_f1x (fun x => [esl_u64 x.1, esl_u64 x.2]) fun l => (dsl_u64 (at_ l 0), dsl_u64 (at_ l 1))
structure X_f1x_4 where
  a_0 : (Sl Int)
  b_1 : (Sl Int)
  i_5 : Int
noncomputable def S_f1x_4 : LabS :=
  labAt Tryz.f25 4 [(0, hsl_u64), (1, hsl_u64), (5, .any)] [] [] X_f1x_4 (fun x => [esl_u64 x.a_0, esl_u64 x.b_1, (V.int .i64) x.i_5]) fun l => ⟨dsl_u64 (at_ l 0), dsl_u64 (at_ l 1), dI (at_ l 2)⟩
noncomputable def tt_f1x_4 (D_f1x_4 : Dyn X_f1x_4 R_f1x) (x : X_f1x_4) : TT Tryz.prog R_f1x :=
 (.ite (ilt x.i_5 ((x.a_0.n : Nat) : Int))
 (.need (inb x.i_5 x.a_0.n) <|
 (.need (inb x.i_5 x.b_1.n) <|
 (.ite (!(ieq (x.a_0.get (Int.toNat x.i_5)) (x.b_1.get (Int.toNat x.i_5))))
 (.ret false)
 (.jump S_f1x_4 D_f1x_4 (X_f1x_4.mk x.a_0 x.b_1 (IntKind.i64.wrap (x.i_5 + 1)))))))
 (.ret true))
theorem sd_f1x_4 (D_f1x_4 : Dyn X_f1x_4 R_f1x) (x : X_f1x_4) : (tt_f1x_4 D_f1x_4 x).Sides :=
  (TT.sI (TT.sN (TT.sN (TT.sI TT.sR TT.sJ))) TT.sR)
noncomputable def D_f1x_4 : Dyn X_f1x_4 R_f1x := Dyn.loop tt_f1x_4
theorem ok_f1x_4 : LabOK J_f1x S_f1x_4 D_f1x_4 :=
  loop_ok fun D_f1x_4 h_4 => lbk mxk (lbc h_4 rfl lbn) 4000 (fun x => by kernel_rfl) (sd_f1x_4 D_f1x_4)
noncomputable def tt_f1x (x : X_f1x) : TT Tryz.prog R_f1x :=
 (.ite (!(ieq ((x.fst.n : Nat) : Int) ((x.snd.n : Nat) : Int)))
 (.ret false)
 (.jump S_f1x_4 D_f1x_4 (X_f1x_4.mk x.fst x.snd 0)))
theorem sd_f1x (x : X_f1x) : (tt_f1x x).Sides :=
  (TT.sI TT.sR TT.sJ)
noncomputable def D_f1x : Dyn X_f1x R_f1x := .of tt_f1x
noncomputable def con_f1x : Con Tryz.prog :=
  mkCon 25 J_f1x S_f1x D_f1x D_f1x (fun _ _ h => h) 2 0 [hsl_u64, hsl_u64] (by kernel_rfl) (by kernel_rfl) (by kernel_rfl) (lbk mxk (lbc ok_f1x_4 rfl lbn) 4000 (fun x => by kernel_rfl) sd_f1x) rfl rfl (fun _ => rfl) (by kernel_rfl) rfl (fun _ => rfl) (fun x y _ => by kernel_rfl)
abbrev X_f3a : Type := TTh × TTh
abbrev R_f3a : Type := Bool
noncomputable def J_f3a : Job Tryz.prog :=
  job Tryz.prog Tryz.f50 52 [(2, 3), (3, 3)] [] [] [] [.any] [] [con_f1x] R_f3a [] fun y => [V.bool y]
noncomputable def S_f3a : LabS :=
  lab0 Tryz.f50 2 0 X_f3a (fun x => [e_TTh x.1, e_TTh x.2]) fun l => (d_TTh (at_ l 0), d_TTh (at_ l 1))
noncomputable def tt_f3a (x : X_f3a) : TT Tryz.prog R_f3a :=
 (.ite (ieq x.fst.At x.snd.At)
 (.ite (ieq x.fst.Phase x.snd.Phase)
 (.ite (ieq x.fst.Ring x.snd.Ring)
 (.ite (ieq x.fst.Status x.snd.Status)
 (.ite (ieq x.fst.Ticket x.snd.Ticket)
 (.ite ((ieq (x.fst.Regs 0) (x.snd.Regs 0)) && ((ieq (x.fst.Regs 1) (x.snd.Regs 1)) && ((ieq (x.fst.Regs 2) (x.snd.Regs 2)) && ((ieq (x.fst.Regs 3) (x.snd.Regs 3)) && ((ieq (x.fst.Regs 4) (x.snd.Regs 4)) && ((ieq (x.fst.Regs 5) (x.snd.Regs 5)) && ((ieq (x.fst.Regs 6) (x.snd.Regs 6)) && ((ieq (x.fst.Regs 7) (x.snd.Regs 7)) && true))))))))
 (.call con_f1x (x.fst.Seen, x.snd.Seen) fun (y1 : R_f1x) =>
 (.ret y1))
 (.ret false))
 (.ret false))
 (.ret false))
 (.ret false))
 (.ret false))
 (.ret false))
theorem sd_f3a (x : X_f3a) : (tt_f3a x).Sides :=
  (TT.sI (TT.sI (TT.sI (TT.sI (TT.sI (TT.sI (TT.sC fun _ => TT.sR) TT.sR) TT.sR) TT.sR) TT.sR) TT.sR) TT.sR)
noncomputable def D_f3a : Dyn X_f3a R_f3a := .of tt_f3a
noncomputable def con_f3a : Con Tryz.prog :=
  mkCon 50 J_f3a S_f3a D_f3a D_f3a (fun _ _ h => h) 2 0 [sh_TTh, sh_TTh] (by kernel_rfl) (by kernel_rfl) (by kernel_rfl) (lbk mxk lbn 4000 (fun x => by kernel_rfl) sd_f3a) rfl rfl (fun _ => rfl) (by kernel_rfl) rfl (fun _ => rfl) (fun x y _ => by kernel_rfl)
abbrev X_f1y : Type := (Sl TSo) × (Sl TSo)
abbrev R_f1y : Type := Bool
noncomputable def J_f1y : Job Tryz.prog :=
  job Tryz.prog Tryz.f95 26 [] [] [] [] [.any] [] [] R_f1y [] fun y => [V.bool y]
noncomputable def S_f1y : LabS :=
  lab0 Tryz.f95 2 0 X_f1y (fun x => [esl_TSo x.1, esl_TSo x.2]) fun l => (dsl_TSo (at_ l 0), dsl_TSo (at_ l 1))
structure X_f1y_4 where
  a_0 : (Sl TSo)
  b_1 : (Sl TSo)
  i_5 : Int
noncomputable def S_f1y_4 : LabS :=
  labAt Tryz.f95 4 [(0, hsl_TSo), (1, hsl_TSo), (5, .any)] [] [] X_f1y_4 (fun x => [esl_TSo x.a_0, esl_TSo x.b_1, (V.int .i64) x.i_5]) fun l => ⟨dsl_TSo (at_ l 0), dsl_TSo (at_ l 1), dI (at_ l 2)⟩
noncomputable def tt_f1y_4 (D_f1y_4 : Dyn X_f1y_4 R_f1y) (x : X_f1y_4) : TT Tryz.prog R_f1y :=
 (.ite (ilt x.i_5 ((x.a_0.n : Nat) : Int))
 (.need (inb x.i_5 x.a_0.n) <|
 (.need (inb x.i_5 x.b_1.n) <|
 (.ite (!((ieq (x.a_0.get (Int.toNat x.i_5)).Stamp (x.b_1.get (Int.toNat x.i_5)).Stamp) && ((ieq (x.a_0.get (Int.toNat x.i_5)).Value (x.b_1.get (Int.toNat x.i_5)).Value) && ((ieq (x.a_0.get (Int.toNat x.i_5)).Left (x.b_1.get (Int.toNat x.i_5)).Left) && true))))
 (.ret false)
 (.jump S_f1y_4 D_f1y_4 (X_f1y_4.mk x.a_0 x.b_1 (IntKind.i64.wrap (x.i_5 + 1)))))))
 (.ret true))
theorem sd_f1y_4 (D_f1y_4 : Dyn X_f1y_4 R_f1y) (x : X_f1y_4) : (tt_f1y_4 D_f1y_4 x).Sides :=
  (TT.sI (TT.sN (TT.sN (TT.sI TT.sR TT.sJ))) TT.sR)
noncomputable def D_f1y_4 : Dyn X_f1y_4 R_f1y := Dyn.loop tt_f1y_4
theorem ok_f1y_4 : LabOK J_f1y S_f1y_4 D_f1y_4 :=
  loop_ok fun D_f1y_4 h_4 => lbk mxk (lbc h_4 rfl lbn) 4000 (fun x => by kernel_rfl) (sd_f1y_4 D_f1y_4)
noncomputable def tt_f1y (x : X_f1y) : TT Tryz.prog R_f1y :=
 (.ite (!(ieq ((x.fst.n : Nat) : Int) ((x.snd.n : Nat) : Int)))
 (.ret false)
 (.jump S_f1y_4 D_f1y_4 (X_f1y_4.mk x.fst x.snd 0)))
theorem sd_f1y (x : X_f1y) : (tt_f1y x).Sides :=
  (TT.sI TT.sR TT.sJ)
noncomputable def D_f1y : Dyn X_f1y R_f1y := .of tt_f1y
noncomputable def con_f1y : Con Tryz.prog :=
  mkCon 95 J_f1y S_f1y D_f1y D_f1y (fun _ _ h => h) 2 0 [hsl_TSo, hsl_TSo] (by kernel_rfl) (by kernel_rfl) (by kernel_rfl) (lbk mxk (lbc ok_f1y_4 rfl lbn) 4000 (fun x => by kernel_rfl) sd_f1y) rfl rfl (fun _ => rfl) (by kernel_rfl) rfl (fun _ => rfl) (fun x y _ => by kernel_rfl)
abbrev X_f16 : Type := TRs × TRs
abbrev R_f16 : Type := Bool
noncomputable def J_f16 : Job Tryz.prog :=
  job Tryz.prog Tryz.f51 53 [(2, 3), (3, 3)] [] [] [] [.any] [] [con_f1y] R_f16 [] fun y => [V.bool y]
noncomputable def S_f16 : LabS :=
  lab0 Tryz.f51 2 0 X_f16 (fun x => [e_TRs x.1, e_TRs x.2]) fun l => (d_TRs (at_ l 0), d_TRs (at_ l 1))
structure X_f16_3 where
  a_2 : TRs
  b_3 : TRs
noncomputable def S_f16_3 : LabS :=
  labAt Tryz.f51 3 [(2, .any), (3, .any)] [] [] X_f16_3 (fun x => [(eVp e_TRs) x.a_2, (eVp e_TRs) x.b_3]) fun l => ⟨(dVp d_TRs) (at_ l 0), (dVp d_TRs) (at_ l 1)⟩
structure X_f16_4 where
  a_2 : TRs
  b_3 : TRs
  i_5 : Int
noncomputable def S_f16_4 : LabS :=
  labAt Tryz.f51 4 [(2, .any), (3, .any), (5, .any)] [] [] X_f16_4 (fun x => [(eVp e_TRs) x.a_2, (eVp e_TRs) x.b_3, (V.int .i64) x.i_5]) fun l => ⟨(dVp d_TRs) (at_ l 0), (dVp d_TRs) (at_ l 1), dI (at_ l 2)⟩
noncomputable def tt_f16_4 (D_f16_4 : Dyn X_f16_4 R_f16) (x : X_f16_4) : TT Tryz.prog R_f16 :=
 (.ite (ilt x.i_5 ((x.a_2.Heads.n : Nat) : Int))
 (.need (inb x.i_5 x.a_2.Heads.n) <|
 (.need (inb x.i_5 x.b_3.Heads.n) <|
 (.ite (!(ieq (x.a_2.Heads.get (Int.toNat x.i_5)) (x.b_3.Heads.get (Int.toNat x.i_5))))
 (.ret false)
 (.jump S_f16_4 D_f16_4 (X_f16_4.mk x.a_2 x.b_3 (IntKind.i64.wrap (x.i_5 + 1)))))))
 (.ret true))
theorem sd_f16_4 (D_f16_4 : Dyn X_f16_4 R_f16) (x : X_f16_4) : (tt_f16_4 D_f16_4 x).Sides :=
  (TT.sI (TT.sN (TT.sN (TT.sI TT.sR TT.sJ))) TT.sR)
noncomputable def D_f16_4 : Dyn X_f16_4 R_f16 := Dyn.loop tt_f16_4
theorem ok_f16_4 : LabOK J_f16 S_f16_4 D_f16_4 :=
  loop_ok fun D_f16_4 h_4 => lbk mxk (lbc h_4 rfl lbn) 4000 (fun x => by kernel_rfl) (sd_f16_4 D_f16_4)
noncomputable def tt_f16_3 (x : X_f16_3) : TT Tryz.prog R_f16 :=
 (.jump S_f16_4 D_f16_4 (X_f16_4.mk x.a_2 x.b_3 0))
theorem sd_f16_3 (x : X_f16_3) : (tt_f16_3 x).Sides :=
  TT.sJ
noncomputable def D_f16_3 : Dyn X_f16_3 R_f16 := .of tt_f16_3
theorem ok_f16_3 : LabOK J_f16 S_f16_3 D_f16_3 :=
  lbk mxk (lbc ok_f16_4 rfl lbn) 4000 (fun x => by kernel_rfl) sd_f16_3
noncomputable def tt_f16 (x : X_f16) : TT Tryz.prog R_f16 :=
 (.ite (!(ieq x.fst.Tail x.snd.Tail))
 (.ret false)
 (.ite (!(x.fst.Closed == x.snd.Closed))
 (.ret false)
 (.ite (!(ieq ((x.fst.Heads.n : Nat) : Int) ((x.snd.Heads.n : Nat) : Int)))
 (.ret false)
 (.call con_f1y (x.fst.Slots, x.snd.Slots) fun (y1 : R_f1y) =>
 (.ite (!y1)
 (.ret false)
 (.jump S_f16_3 D_f16_3 (X_f16_3.mk x.fst x.snd)))))))
theorem sd_f16 (x : X_f16) : (tt_f16 x).Sides :=
  (TT.sI TT.sR (TT.sI TT.sR (TT.sI TT.sR (TT.sC fun _ => (TT.sI TT.sR TT.sJ)))))
noncomputable def D_f16 : Dyn X_f16 R_f16 := .of tt_f16
noncomputable def con_f16 : Con Tryz.prog :=
  mkCon 51 J_f16 S_f16 D_f16 D_f16 (fun _ _ h => h) 2 0 [sh_TRs, sh_TRs] (by kernel_rfl) (by kernel_rfl) (by kernel_rfl) (lbk mxk (lbc ok_f16_4 rfl (lbc ok_f16_3 rfl lbn)) 4000 (fun x => by kernel_rfl) sd_f16) rfl rfl (fun _ => rfl) (by kernel_rfl) rfl (fun _ => rfl) (fun x y _ => by kernel_rfl)
abbrev X_fh : Type := TSt × TSt
abbrev R_fh : Type := Bool
noncomputable def J_fh : Job Tryz.prog :=
  job Tryz.prog Tryz.f16 82 [(2, 3), (3, 3)] [] [] [] [.any] [] [con_f16, con_f3a] R_fh [] fun y => [V.bool y]
noncomputable def S_fh : LabS :=
  lab0 Tryz.f16 2 0 X_fh (fun x => [e_TSt x.1, e_TSt x.2]) fun l => (d_TSt (at_ l 0), d_TSt (at_ l 1))
structure X_fh_3 where
  a_2 : TSt
  b_3 : TSt
noncomputable def S_fh_3 : LabS :=
  labAt Tryz.f16 3 [(2, .any), (3, .any)] [] [] X_fh_3 (fun x => [(eVp e_TSt) x.a_2, (eVp e_TSt) x.b_3]) fun l => ⟨(dVp d_TSt) (at_ l 0), (dVp d_TSt) (at_ l 1)⟩
structure X_fh_4 where
  a_2 : TSt
  b_3 : TSt
  i_5 : Int
noncomputable def S_fh_4 : LabS :=
  labAt Tryz.f16 4 [(2, .any), (3, .any), (5, .any)] [] [] X_fh_4 (fun x => [(eVp e_TSt) x.a_2, (eVp e_TSt) x.b_3, (V.int .i64) x.i_5]) fun l => ⟨(dVp d_TSt) (at_ l 0), (dVp d_TSt) (at_ l 1), dI (at_ l 2)⟩
structure X_fh_8 where
  a_2 : TSt
  b_3 : TSt
noncomputable def S_fh_8 : LabS :=
  labAt Tryz.f16 8 [(2, .any), (3, .any)] [] [] X_fh_8 (fun x => [(eVp e_TSt) x.a_2, (eVp e_TSt) x.b_3]) fun l => ⟨(dVp d_TSt) (at_ l 0), (dVp d_TSt) (at_ l 1)⟩
structure X_fh_9 where
  a_2 : TSt
  b_3 : TSt
  i_6 : Int
noncomputable def S_fh_9 : LabS :=
  labAt Tryz.f16 9 [(2, .any), (3, .any), (6, .any)] [] [] X_fh_9 (fun x => [(eVp e_TSt) x.a_2, (eVp e_TSt) x.b_3, (V.int .i64) x.i_6]) fun l => ⟨(dVp d_TSt) (at_ l 0), (dVp d_TSt) (at_ l 1), dI (at_ l 2)⟩
noncomputable def tt_fh_9 (D_fh_9 : Dyn X_fh_9 R_fh) (x : X_fh_9) : TT Tryz.prog R_fh :=
 (.ite (ilt x.i_6 ((x.a_2.Rings.n : Nat) : Int))
 (.need (inb x.i_6 x.a_2.Rings.n) <|
 (.need (inb x.i_6 x.b_3.Rings.n) <|
 (.call con_f16 ((x.a_2.Rings.get (Int.toNat x.i_6)), (x.b_3.Rings.get (Int.toNat x.i_6))) fun (y2 : R_f16) =>
 (.ite (!y2)
 (.ret false)
 (.jump S_fh_9 D_fh_9 (X_fh_9.mk x.a_2 x.b_3 (IntKind.i64.wrap (x.i_6 + 1))))))))
 (.ret true))
theorem sd_fh_9 (D_fh_9 : Dyn X_fh_9 R_fh) (x : X_fh_9) : (tt_fh_9 D_fh_9 x).Sides :=
  (TT.sI (TT.sN (TT.sN (TT.sC fun _ => (TT.sI TT.sR TT.sJ)))) TT.sR)
noncomputable def D_fh_9 : Dyn X_fh_9 R_fh := Dyn.loop tt_fh_9
theorem ok_fh_9 : LabOK J_fh S_fh_9 D_fh_9 :=
  loop_ok fun D_fh_9 h_9 => lbk mxk (lbc h_9 rfl lbn) 4000 (fun x => by kernel_rfl) (sd_fh_9 D_fh_9)
noncomputable def tt_fh_8 (x : X_fh_8) : TT Tryz.prog R_fh :=
 (.jump S_fh_9 D_fh_9 (X_fh_9.mk x.a_2 x.b_3 0))
theorem sd_fh_8 (x : X_fh_8) : (tt_fh_8 x).Sides :=
  TT.sJ
noncomputable def D_fh_8 : Dyn X_fh_8 R_fh := .of tt_fh_8
theorem ok_fh_8 : LabOK J_fh S_fh_8 D_fh_8 :=
  lbk mxk (lbc ok_fh_9 rfl lbn) 4000 (fun x => by kernel_rfl) sd_fh_8
noncomputable def tt_fh_4 (D_fh_4 : Dyn X_fh_4 R_fh) (x : X_fh_4) : TT Tryz.prog R_fh :=
 (.ite (ilt x.i_5 ((x.a_2.Threads.n : Nat) : Int))
 (.need (inb x.i_5 x.a_2.Threads.n) <|
 (.need (inb x.i_5 x.b_3.Threads.n) <|
 (.call con_f3a ((x.a_2.Threads.get (Int.toNat x.i_5)), (x.b_3.Threads.get (Int.toNat x.i_5))) fun (y2 : R_f3a) =>
 (.ite (!y2)
 (.ret false)
 (.jump S_fh_4 D_fh_4 (X_fh_4.mk x.a_2 x.b_3 (IntKind.i64.wrap (x.i_5 + 1))))))))
 (.jump S_fh_8 D_fh_8 (X_fh_8.mk x.a_2 x.b_3)))
theorem sd_fh_4 (D_fh_4 : Dyn X_fh_4 R_fh) (x : X_fh_4) : (tt_fh_4 D_fh_4 x).Sides :=
  (TT.sI (TT.sN (TT.sN (TT.sC fun _ => (TT.sI TT.sR TT.sJ)))) TT.sJ)
noncomputable def D_fh_4 : Dyn X_fh_4 R_fh := Dyn.loop tt_fh_4
theorem ok_fh_4 : LabOK J_fh S_fh_4 D_fh_4 :=
  loop_ok fun D_fh_4 h_4 => lbk mxk (lbc h_4 rfl (lbc ok_fh_9 rfl (lbc ok_fh_8 rfl lbn))) 4000 (fun x => by kernel_rfl) (sd_fh_4 D_fh_4)
noncomputable def tt_fh_3 (x : X_fh_3) : TT Tryz.prog R_fh :=
 (.jump S_fh_4 D_fh_4 (X_fh_4.mk x.a_2 x.b_3 0))
theorem sd_fh_3 (x : X_fh_3) : (tt_fh_3 x).Sides :=
  TT.sJ
noncomputable def D_fh_3 : Dyn X_fh_3 R_fh := .of tt_fh_3
theorem ok_fh_3 : LabOK J_fh S_fh_3 D_fh_3 :=
  lbk mxk (lbc ok_fh_9 rfl (lbc ok_fh_8 rfl (lbc ok_fh_4 rfl lbn))) 4000 (fun x => by kernel_rfl) sd_fh_3
noncomputable def tt_fh (x : X_fh) : TT Tryz.prog R_fh :=
 (.ite (!(ieq ((x.fst.Threads.n : Nat) : Int) ((x.snd.Threads.n : Nat) : Int)))
 (.ret false)
 (.ite (!(ieq ((x.fst.Rings.n : Nat) : Int) ((x.snd.Rings.n : Nat) : Int)))
 (.ret false)
 (.ite (!(ieq x.fst.Now x.snd.Now))
 (.ret false)
 (.ite (!(ieq x.fst.Reads x.snd.Reads))
 (.ret false)
 (.ite (!(x.fst.Ended == x.snd.Ended))
 (.ret false)
 (.jump S_fh_3 D_fh_3 (X_fh_3.mk x.fst x.snd)))))))
theorem sd_fh (x : X_fh) : (tt_fh x).Sides :=
  (TT.sI TT.sR (TT.sI TT.sR (TT.sI TT.sR (TT.sI TT.sR (TT.sI TT.sR TT.sJ)))))
noncomputable def D_fh : Dyn X_fh R_fh := .of tt_fh
noncomputable def con_fh : Con Tryz.prog :=
  mkCon 16 J_fh S_fh D_fh D_fh (fun _ _ h => h) 2 0 [sh_TSt, sh_TSt] (by kernel_rfl) (by kernel_rfl) (by kernel_rfl) (lbk mxk (lbc ok_fh_9 rfl (lbc ok_fh_8 rfl (lbc ok_fh_4 rfl (lbc ok_fh_3 rfl lbn)))) 4000 (fun x => by kernel_rfl) sd_fh) rfl rfl (fun _ => rfl) (by kernel_rfl) rfl (fun _ => rfl) (fun x y _ => by kernel_rfl)
abbrev Dsl_TEv : Type := (Sl TEv)
def esl_TEv : Dsl_TEv → V := (eSl none 5 e_TEv)
def dsl_TEv : V → Dsl_TEv := (dSl d_TEv)
def hsl_TEv : Sh := (.sl none 5 (e_TEv (d_TEv .undef)))
abbrev X_f25 : Type := (Bx TRr)
abbrev R_f25 : Type := Int
noncomputable def J_f25 : Job Tryz.prog :=
  job Tryz.prog Tryz.f35 8 [(5, 1)] [] [(0, [.open_ 0])] [] [.any] [] [] R_f25 [] fun y => [(V.int .i64) y]
noncomputable def S_f25 : LabS :=
  lab0 Tryz.f35 1 0 X_f25 (fun x => [ebox_TRr x]) fun l => (dbox_TRr (at_ l 0))
noncomputable def tt_f25 (x : X_f25) : TT Tryz.prog R_f25 :=
 (.need (!x.nil) <|
 (.ret 0))
theorem sd_f25 (x : X_f25) : (tt_f25 x).Sides :=
  (TT.sN TT.sR)
noncomputable def D_f25 : Dyn X_f25 R_f25 := .of tt_f25
noncomputable def con_f25 : Con Tryz.prog :=
  mkCon 35 J_f25 S_f25 D_f25 D_f25 (fun _ _ h => h) 1 0 [hbox_TRr] (by kernel_rfl) (by kernel_rfl) (by kernel_rfl) (lbk mxk lbn 4000 (fun x => by kernel_rfl) sd_f25) rfl rfl (fun _ => rfl) (by kernel_rfl) rfl (fun _ => rfl) (fun x y _ => by kernel_rfl)
abbrev X_f26 : Type := (Bx TRr)
abbrev R_f26 : Type := Int × Int
noncomputable def J_f26 : Job Tryz.prog :=
  job Tryz.prog Tryz.f36 30 [(24, 1)] [] [(0, [.open_ 0])] [] [.any, .any] [] [con_f19] R_f26 [] fun y => [V.tup (V.cons ((V.int .u64) y.1) (V.cons ((V.int .i64) y.2) (V.unit)))]
noncomputable def S_f26 : LabS :=
  lab0 Tryz.f36 1 0 X_f26 (fun x => [ebox_TRr x]) fun l => (dbox_TRr (at_ l 0))
noncomputable def tt_f26 (x : X_f26) : TT Tryz.prog R_f26 :=
 (.need (!x.nil) <|
 (.ite x.x.closed
 (.ret (0, 10))
 (.call con_f19 x.x fun (y1 : R_f19) =>
 (.ite y1
 (.ret (0, 8))
 (.ret ((IntKind.u64.wrap ((IntKind.u64.wrap (x.x.cursors.tail + 1)) - 1)), 0))))))
theorem sd_f26 (x : X_f26) : (tt_f26 x).Sides :=
  (TT.sN (TT.sI TT.sR (TT.sC fun _ => (TT.sI TT.sR TT.sR))))
noncomputable def D_f26 : Dyn X_f26 R_f26 := .of tt_f26
noncomputable def con_f26 : Con Tryz.prog :=
  mkCon 36 J_f26 S_f26 D_f26 D_f26 (fun _ _ h => h) 1 0 [hbox_TRr] (by kernel_rfl) (by kernel_rfl) (by kernel_rfl) (lbk mxk lbn 4000 (fun x => by kernel_rfl) sd_f26) rfl rfl (fun _ => rfl) (by kernel_rfl) rfl (fun _ => rfl) (fun x y _ => by kernel_rfl)
end Go.Proofs.YtiplcdhnjennfaaGreat
