/- What functions of the program come to, part B: no statement is proved here. -/
import Derived.Test.YtiamaibincaihaaGreatGA
noncomputable section
namespace Go.Proofs.YtiamaibincaihaaGreat
open Go Go.Vm Go.Proofs
set_option maxRecDepth 100000
set_option maxHeartbeats 4000000
abbrev X_fh : Type := TAk × TEv
abbrev R_fh : Type := Bool
def J_fh : BT Tryz.prog :=
 Bg Tryz.prog Tryz.f161 79 [(2, 3), (3, 3)] [] [] [] [.any] [] [con_f2m, con_f2b] R_fh [] fun y => [V.bool y]
def S_fh : AR :=
 Aq Tryz.f161 2 0 X_fh (fun x => [e_TAk x.1, e_TEv x.2]) fun l => (d_TAk (at_ l 0), d_TEv (at_ l 1))
structure X_fh_3 where
 FM : TAk
 F6 : TEv
def S_fh_3 : AR :=
 Ai Tryz.f161 3 (an [2, 3]) [] [] X_fh_3 (fun x => [(DO e_TAk) x.FM, (DO e_TEv) x.F6]) fun l => ⟨(DP d_TAk) (at_ l 0), (DP d_TEv) (at_ l 1)⟩
structure X_fh_4 where
 FM : TAk
 F6 : TEv
 Jj : Bool
def S_fh_4 : AR :=
 Ai Tryz.f161 4 (an [2, 3, 5]) [] [] X_fh_4 (fun x => [(DO e_TAk) x.FM, (DO e_TEv) x.F6, V.bool x.Jj]) fun l => ⟨(DP d_TAk) (at_ l 0), (DP d_TEv) (at_ l 1), dB (at_ l 2)⟩
structure X_fh_16 where
 FM : TAk
 F6 : TEv
def S_fh_16 : AR :=
 Ai Tryz.f161 16 (an [2, 3]) [] [] X_fh_16 (fun x => [(DO e_TAk) x.FM, (DO e_TEv) x.F6]) fun l => ⟨(DP d_TAk) (at_ l 0), (DP d_TEv) (at_ l 1)⟩
def tt_fh_16 (x : X_fh_16) : TT Tryz.prog R_fh :=
 (.call con_f2b x.F6.Kind fun (y1 : R_f2b) =>
 (.ret (Ae x.FM.Kind y1)))
theorem sd_fh_16 (x : X_fh_16) : (tt_fh_16 x).AJ :=
 (TT.sC fun _ => TT.sR)
def D_fh_16 : AS X_fh_16 R_fh := .of tt_fh_16
theorem ok_fh_16 : AX J_fh S_fh_16 D_fh_16 :=
 lk mxk lbn sd_fh_16
def tt_fh_4 (x : X_fh_4) : TT Tryz.prog R_fh :=
 (.ite (Ae x.F6.Kind 5)
 (.ite x.Jj
 (.ret (Ae x.FM.Mode 0))
 (.ret false))
 (.ite (Ae x.F6.Kind 6)
 (.ret x.Jj)
 (.ite (Ae x.F6.Kind 7)
 (.ite x.Jj
 (.ret (Ae x.FM.Mode 2))
 (.ret false))
 (.ite (Ae x.F6.Kind 2)
 (.call con_f2b x.F6.Kind fun (y1 : R_f2b) =>
 (.ite (Ae x.FM.Kind y1)
 (.ret (Ae x.FM.AG x.F6.AG))
 (.ret false)))
 (.ite (Ae x.F6.Kind 4)
 (.call con_f2b x.F6.Kind fun (y1 : R_f2b) =>
 (.ite (Ae x.FM.Kind y1)
 (.ret (Ae x.FM.AG x.F6.AG))
 (.ret false)))
 (.ite (Ae x.F6.Kind 12)
 (.ite (Ae x.FM.Kind 7)
 (.ret (Ae x.FM.Value x.F6.Value))
 (.ret false))
 (.Ab S_fh_16 D_fh_16 (X_fh_16.mk x.FM x.F6))))))))
theorem sd_fh_4 (x : X_fh_4) : (tt_fh_4 x).AJ :=
 (TT.sI (TT.sI TT.sR TT.sR) (TT.sI TT.sR (TT.sI (TT.sI TT.sR TT.sR) (TT.sI (TT.sC fun _ => (TT.sI TT.sR TT.sR)) (TT.sI (TT.sC fun _ => (TT.sI TT.sR TT.sR)) (TT.sI (TT.sI TT.sR TT.sR) TT.sJ))))))
def D_fh_4 : AS X_fh_4 R_fh := .of tt_fh_4
theorem ok_fh_4 : AX J_fh S_fh_4 D_fh_4 :=
 lk mxk (lbc ok_fh_16 rfl lbn) sd_fh_4
def tt_fh_3 (x : X_fh_3) : TT Tryz.prog R_fh :=
 (.ite (Ae x.FM.Kind 1)
 (.Ab S_fh_4 D_fh_4 (X_fh_4.mk x.FM x.F6 true))
 (.Ab S_fh_4 D_fh_4 (X_fh_4.mk x.FM x.F6 (Ae x.FM.Kind 2))))
theorem sd_fh_3 (x : X_fh_3) : (tt_fh_3 x).AJ :=
 (TT.sI TT.sJ TT.sJ)
def D_fh_3 : AS X_fh_3 R_fh := .of tt_fh_3
theorem ok_fh_3 : AX J_fh S_fh_3 D_fh_3 :=
 lk mxk (lbc ok_fh_16 rfl (lbc ok_fh_4 rfl lbn)) sd_fh_3
def tt_fh (x : X_fh) : TT Tryz.prog R_fh :=
 (.call con_f2m x.snd.Kind fun (y1 : R_f2m) =>
 (.ite y1
 (.ite (!(Ae x.fst.Ring x.snd.Ring))
 (.ret false)
 (.Ab S_fh_3 D_fh_3 (X_fh_3.mk x.fst x.snd)))
 (.Ab S_fh_3 D_fh_3 (X_fh_3.mk x.fst x.snd))))
theorem sd_fh (x : X_fh) : (tt_fh x).AJ :=
 (TT.sC fun _ => (TT.sI (TT.sI TT.sR TT.sJ) TT.sJ))
def D_fh : AS X_fh R_fh := .of tt_fh
def con_fh : BN Tryz.prog :=
 CY 161 J_fh S_fh D_fh 2 0 [.any, .any] (lk mxk (lbc ok_fh_16 rfl (lbc ok_fh_4 rfl (lbc ok_fh_3 rfl lbn))) sd_fh)
abbrev X_fn : Type := TIn × TEv × Int × TTh
abbrev R_fn : Type := TTh
def J_fn : BT Tryz.prog :=
 Bg Tryz.prog Tryz.f162 121 [(4, 3), (6, 3), (98, 1)] [] [] [] [] [sh_TTh_6] [] R_fn [] fun y => [V.CR (V.unit), e_TTh_6 y]
def S_fn : AR :=
 Aq Tryz.f162 4 1 X_fn (fun x => [e_TIn x.1, (V.ptr (.par 0) []), e_TEv x.2.1, (V.int .u64) x.2.2.1, e_TTh_6 x.2.2.2]) fun l => (d_TIn (at_ l 0), d_TEv (at_ l 2), dI (at_ l 3), d_TTh (at_ l 4))
structure X_fn_23 where
 Ad : TTh
def S_fn_23 : AR :=
 Ai Tryz.f162 23 [(1, .any)] [sh_TTh_6] [] X_fn_23 (fun x => [(V.ptr (.par 0) []), e_TTh_6 x.Ad]) fun l => ⟨d_TTh (at_ l 1)⟩
def tt_fn_23 (x : X_fn_23) : TT Tryz.prog R_fn :=
 (.ret (TTh.mk (IntKind.i64.wrap (x.Ad.At + 1)) 0 0 x.Ad.Status 0 x.Ad.Ao x.Ad.Seen))
theorem sd_fn_23 (x : X_fn_23) : (tt_fn_23 x).AJ :=
 TT.sR
def D_fn_23 : AS X_fn_23 R_fn := .of tt_fn_23
theorem ok_fn_23 : AX J_fn S_fn_23 D_fn_23 :=
 lk mxk lbn sd_fn_23
def tt_fn (x : X_fn) : TT Tryz.prog R_fn :=
 (.ite (Ae x.snd.fst.Kind 2)
 (.need (BQ x.fst.B 8) <|
 (.Ab S_fn_23 D_fn_23 (X_fn_23.mk (TTh.mk x.snd.snd.snd.At x.snd.snd.snd.Phase x.snd.snd.snd.Ring x.snd.snd.snd.Status x.snd.snd.snd.AG (fun i1 => (cond (Nat.beq i1 (Int.toNat x.fst.B)) (0 : Int) (x.snd.snd.snd.Ao i1))) x.snd.snd.snd.Seen))))
 (.ite (Ae x.snd.fst.Kind 4)
 (.need (BQ x.fst.A 8) <|
 (.need (BQ x.fst.B 8) <|
 (.Ab S_fn_23 D_fn_23 (X_fn_23.mk (TTh.mk x.snd.snd.snd.At x.snd.snd.snd.Phase x.snd.snd.snd.Ring x.snd.snd.snd.Status x.snd.snd.snd.AG (fun i1 => (cond (Nat.beq i1 (Int.toNat x.fst.B)) (0 : Int) (cond (Nat.beq i1 (Int.toNat x.fst.A)) x.snd.snd.fst (x.snd.snd.snd.Ao i1)))) x.snd.snd.snd.Seen)))))
 (.ite (Ae x.snd.fst.Kind 5)
 (.need (BQ x.fst.B 8) <|
 (.Ab S_fn_23 D_fn_23 (X_fn_23.mk (TTh.mk x.snd.snd.snd.At x.snd.snd.snd.Phase x.snd.snd.snd.Ring x.snd.snd.snd.Status x.snd.snd.snd.AG (fun i1 => (cond (Nat.beq i1 (Int.toNat x.fst.B)) (1 : Int) (x.snd.snd.snd.Ao i1))) x.snd.snd.snd.Seen))))
 (.ite (Ae x.snd.fst.Kind 6)
 (.need (BQ x.fst.B 8) <|
 (.Ab S_fn_23 D_fn_23 (X_fn_23.mk (TTh.mk x.snd.snd.snd.At x.snd.snd.snd.Phase x.snd.snd.snd.Ring x.snd.snd.snd.Status x.snd.snd.snd.AG (fun i1 => (cond (Nat.beq i1 (Int.toNat x.fst.B)) (2 : Int) (x.snd.snd.snd.Ao i1))) x.snd.snd.snd.Seen))))
 (.ite (Ae x.snd.fst.Kind 7)
 (.need (BQ x.fst.B 8) <|
 (.Ab S_fn_23 D_fn_23 (X_fn_23.mk (TTh.mk x.snd.snd.snd.At x.snd.snd.snd.Phase x.snd.snd.snd.Ring x.snd.snd.snd.Status x.snd.snd.snd.AG (fun i1 => (cond (Nat.beq i1 (Int.toNat x.fst.B)) (3 : Int) (x.snd.snd.snd.Ao i1))) x.snd.snd.snd.Seen))))
 (.ite (Ae x.snd.fst.Kind 8)
 (.need (BQ x.fst.A 8) <|
 (.Ab S_fn_23 D_fn_23 (X_fn_23.mk (TTh.mk x.snd.snd.snd.At x.snd.snd.snd.Phase x.snd.snd.snd.Ring x.snd.snd.snd.Status x.snd.snd.snd.AG (fun i1 => (cond (Nat.beq i1 (Int.toNat x.fst.A)) x.snd.fst.Value (x.snd.snd.snd.Ao i1))) x.snd.snd.snd.Seen))))
 (.ite (Ae x.snd.fst.Kind 9)
 (.need (BQ x.fst.A 8) <|
 (.Ab S_fn_23 D_fn_23 (X_fn_23.mk (TTh.mk x.snd.snd.snd.At x.snd.snd.snd.Phase x.snd.snd.snd.Ring x.snd.snd.snd.Status x.snd.snd.snd.AG (fun i1 => (cond (Nat.beq i1 (Int.toNat x.fst.A)) x.snd.fst.Value (x.snd.snd.snd.Ao i1))) x.snd.snd.snd.Seen))))
 (.ite (Ae x.snd.fst.Kind 10)
 (.need (BQ x.fst.A 8) <|
 (.need (BQ x.fst.B 8) <|
 (.Ab S_fn_23 D_fn_23 (X_fn_23.mk (TTh.mk x.snd.snd.snd.At x.snd.snd.snd.Phase x.snd.snd.snd.Ring x.snd.snd.snd.Status x.snd.snd.snd.AG (fun i1 => (cond (Nat.beq i1 (Int.toNat x.fst.B)) (0 : Int) (cond (Nat.beq i1 (Int.toNat x.fst.A)) x.snd.fst.Value (x.snd.snd.snd.Ao i1)))) x.snd.snd.snd.Seen)))))
 (.ite (Ae x.snd.fst.Kind 11)
 (.need (BQ x.fst.B 8) <|
 (.Ab S_fn_23 D_fn_23 (X_fn_23.mk (TTh.mk x.snd.snd.snd.At x.snd.snd.snd.Phase x.snd.snd.snd.Ring x.snd.snd.snd.Status x.snd.snd.snd.AG (fun i1 => (cond (Nat.beq i1 (Int.toNat x.fst.B)) (1 : Int) (x.snd.snd.snd.Ao i1))) x.snd.snd.snd.Seen))))
 (.ite (Ae x.snd.fst.Kind 12)
 (.need (true && (room (x.snd.snd.snd.Seen.n + 1) 8)) <|
 (.Ab S_fn_23 D_fn_23 (X_fn_23.mk (TTh.mk x.snd.snd.snd.At x.snd.snd.snd.Phase x.snd.snd.snd.Ring x.snd.snd.snd.Status x.snd.snd.snd.AG x.snd.snd.snd.Ao (Sl.mk (cond (Nat.beq 1 0) x.snd.snd.snd.Seen.nil false) (x.snd.snd.snd.Seen.n + 1) (fun i1 => (cond (Nat.blt i1 x.snd.snd.snd.Seen.n) (x.snd.snd.snd.Seen.get i1) x.snd.fst.Value)))))))
 (.Ab S_fn_23 D_fn_23 (X_fn_23.mk x.snd.snd.snd))))))))))))
theorem sd_fn (x : X_fn) : (tt_fn x).AJ :=
 (TT.sI (TT.sN TT.sJ) (TT.sI (TT.sN (TT.sN TT.sJ)) (TT.sI (TT.sN TT.sJ) (TT.sI (TT.sN TT.sJ) (TT.sI (TT.sN TT.sJ) (TT.sI (TT.sN TT.sJ) (TT.sI (TT.sN TT.sJ) (TT.sI (TT.sN (TT.sN TT.sJ)) (TT.sI (TT.sN TT.sJ) (TT.sI (TT.sN TT.sJ) TT.sJ))))))))))
def D_fn : AS X_fn R_fn := .of tt_fn
def con_fn : BN Tryz.prog :=
 CY 162 J_fn S_fn D_fn 4 1 [.any, .any, .any, .any] (lk mxk (lbc ok_fn_23 rfl lbn) sd_fn)
abbrev X_f20 : Type := (Sl TIn) × TTh × TEv × Int
abbrev R_f20 : Type := TTh × Int
def J_f20 : BT Tryz.prog :=
 Bg Tryz.prog Tryz.f113 75 [(6, 3), (12, 1), (42, 1)] [] [] [] [sh_TTh, .any] [] [con_f2n, con_f2l, con_fn, con_fh] R_f20 [] fun y => [V.CR (V.cons (e_TTh y.1) (V.cons ((V.int .i64) y.2) (V.unit)))]
def S_f20 : AR :=
 Aq Tryz.f113 4 0 X_f20 (fun x => [esl_TIn x.1, e_TTh x.2.1, e_TEv x.2.2.1, (V.int .u64) x.2.2.2]) fun l => (dsl_TIn (at_ l 0), d_TTh (at_ l 1), d_TEv (at_ l 2), dI (at_ l 3))
structure X_f20_8 where
 Ge : (Sl TIn)
 v_3 : Int
 TE : TEv
 FO : TTh
 VE : TTh
def S_f20_8 : AR :=
 Ai Tryz.f113 8 [(0, hsl_TIn), (3, .any), (5, .any), (6, .any), (8, .any)] [] [(.loc 5 0, sh_TTh_6), (.loc 8 0, sh_TTh_6)] X_f20_8 (fun x => [esl_TIn x.Ge, (V.int .u64) x.v_3, (V.ptr (.loc 5 0) []), (DO e_TEv) x.TE, (V.ptr (.loc 8 0) []), e_TTh_6 x.FO, e_TTh_6 x.VE]) fun l => ⟨dsl_TIn (at_ l 0), dI (at_ l 1), (DP d_TEv) (at_ l 3), d_TTh (at_ l 5), d_TTh (at_ l 6)⟩
def tt_f20_8 (x : X_f20_8) : TT Tryz.prog R_f20 :=
 (.ite (Ae x.TE.Kind 1)
 (.ret ((TTh.mk x.FO.At 1 x.TE.Ring x.FO.Status x.TE.AG x.FO.Ao x.FO.Seen), 0))
 (.ite (Ae x.TE.Kind 3)
 (.ret ((TTh.mk x.FO.At 2 x.TE.Ring x.FO.Status x.TE.AG x.FO.Ao x.FO.Seen), 0))
 (.ite (Ae x.TE.Kind 14)
 (.ret ((TTh.mk x.FO.At x.FO.Phase x.FO.Ring 1 x.FO.AG x.FO.Ao x.FO.Seen), 0))
 (.ite (Ae x.TE.Kind 15)
 (.ret ((TTh.mk x.FO.At x.FO.Phase x.FO.Ring 2 x.FO.AG x.FO.Ao x.FO.Seen), 0))
 (.need (BQ x.FO.At x.Ge.n) <|
 (.call con_fn ((x.Ge.get (Int.toNat x.FO.At)), (x.TE, (x.v_3, x.FO))) fun (y1 : R_fn) =>
 (.ret (y1, 0))))))))
theorem sd_f20_8 (x : X_f20_8) : (tt_f20_8 x).AJ :=
 (TT.sI TT.sR (TT.sI TT.sR (TT.sI TT.sR (TT.sI TT.sR (TT.sN (TT.sC fun _ => TT.sR))))))
def D_f20_8 : AS X_f20_8 R_f20 := .of tt_f20_8
theorem ok_f20_8 : AX J_f20 S_f20_8 D_f20_8 :=
 lk mxk lbn sd_f20_8
def tt_f20 (x : X_f20) : TT Tryz.prog R_f20 :=
 (.call con_f2l (x.fst, x.snd.fst) fun (y1 : R_f2l) =>
 (.ite (!(Ae y1.snd.snd 0))
 (.ret ((TTh.mk 0 0 0 0 0 (fun _i2 => (0 : Int)) (Sl.mk true 0 (fun _i2 => (0 : Int)))), y1.snd.snd))
 (.call con_f2n x.snd.snd.fst fun (y2 : R_f2n) =>
 (.ite (!y2)
 (.ret ((TTh.mk 0 0 0 0 0 (fun _i3 => (0 : Int)) (Sl.mk true 0 (fun _i3 => (0 : Int)))), 3))
 (.ite (Ae y1.snd.fst.Kind 0)
 (.ret ((TTh.mk 0 0 0 0 0 (fun _i3 => (0 : Int)) (Sl.mk true 0 (fun _i3 => (0 : Int)))), 11))
 (.call con_fh (y1.snd.fst, x.snd.snd.fst) fun (y3 : R_fh) =>
 (.ite (!y3)
 (.ret ((TTh.mk 0 0 0 0 0 (fun _i4 => (0 : Int)) (Sl.mk true 0 (fun _i4 => (0 : Int)))), 11))
 (.Ab S_f20_8 D_f20_8 (X_f20_8.mk x.fst x.snd.snd.snd x.snd.snd.fst y1.fst (TTh.mk 0 0 0 0 0 (fun _i4 => (0 : Int)) (Sl.mk true 0 (fun _i4 => (0 : Int)))))))))))))
theorem sd_f20 (x : X_f20) : (tt_f20 x).AJ :=
 (TT.sC fun _ => (TT.sI TT.sR (TT.sC fun _ => (TT.sI TT.sR (TT.sI TT.sR (TT.sC fun _ => (TT.sI TT.sR TT.sJ)))))))
def D_f20 : AS X_f20 R_f20 := .of tt_f20
def con_f20 : BN Tryz.prog :=
 CY 113 J_f20 S_f20 D_f20 4 0 [hsl_TIn, sh_TTh, .any, .any] (lk mxk (lbc ok_f20_8 rfl lbn) sd_f20)
abbrev X_f10 : Type := TEv × TFa
abbrev R_f10 : Type := Int
abbrev RR_f10 : Type := Int × TFa
abbrev p_f10 (y : RR_f10) : TFa := y.2
abbrev w_f10 (x : X_f10) : TFa := x.2
def J_f10 : BT Tryz.prog :=
 Bg Tryz.prog Tryz.f62 43 [(3, 3), (20, 1)] [(8, [.back (.loc 33 0)])] [(7, [.HR (.par 0) [.Bk 1 2] 33])] [.back (.loc 33 0)] [.any] [sh_TFa] [con_f2n, con_f14, con_f20] RR_f10 [(0, [⟨.loc 33 0, .par 0, [.Bk 1 2], none, none⟩])] fun y => [(V.int .i64) y.1, e_TFa y.2]
def S_f10 : AR :=
 Aq Tryz.f62 2 1 X_f10 (fun x => [(V.ptr (.par 0) []), e_TEv x.1, e_TFa x.2]) fun l => (d_TEv (at_ l 1), d_TFa (at_ l 2))
def tt_f10 (x : X_f10) : TT Tryz.prog RR_f10 :=
 (.call con_f2n x.fst fun (y1 : R_f2n) =>
 (.ite (!y1)
 (.ret (3, x.snd))
 (.call con_f14 (x.fst.Thread, x.snd) fun (y2 : R_f14) =>
 (.ite (!y2)
 (.ret (5, x.snd))
 (.need (BQ x.fst.Thread x.snd.p.AB.n) <|
 (.need (BQ x.fst.Thread x.snd.threads.n) <|
 (.need ((Nat.beq x.snd.threads.n x.snd.threads.n) && true) <|
 (.call con_f20 ((x.snd.p.AB.get (Int.toNat x.fst.Thread)), ((x.snd.threads.get ((0 : Nat) + (Int.toNat x.fst.Thread))), (x.fst, 0))) fun (y3 : R_f20) =>
 (.need ((true && true) && (Nat.beq x.snd.threads.n x.snd.threads.n)) <|
 (.ret (y3.snd, x.snd)))))))))))
theorem sd_f10 (x : X_f10) : (tt_f10 x).AJ :=
 (TT.sC fun _ => (TT.sI TT.sR (TT.sC fun _ => (TT.sI TT.sR (TT.sN (TT.sN (TT.sN (TT.sC fun _ => (TT.sN TT.sR)))))))))
theorem roT_f10 (x : X_f10) : TT.Ro p_f10 (w_f10 x) (tt_f10 x) :=
 (TT.rC fun _ => (TT.rI (TT.rR rfl) (TT.rC fun _ => (TT.rI (TT.rR rfl) (TT.rN (TT.rN (TT.rN (TT.rC fun _ => (TT.rN (TT.rR rfl))))))))))
def D_f10 : AS X_f10 R_f10 := .ro (.of tt_f10) (fun y => (y.1)) (fun y x => (y, x.2)) fun x y h => congrArg (fun o => (y.1, o)) (roT_f10 x y h)
def con_f10 : BN Tryz.prog :=
 DC 62 J_f10 S_f10 (.of tt_f10) D_f10 (fun y x => (y, x.2)) (fun y => (V.int .i64) y) 2 1 [.any, .any] (lk mxk lbn sd_f10) (fun x => ⟨(nu_e_TFa : ∀ y, (e_TFa y).Cd) (x.2), trivial⟩)
abbrev X_f11 : Type := TAk × TFa
abbrev R_f11 : Type := Bool
abbrev RR_f11 : Type := Bool × TFa
abbrev p_f11 (y : RR_f11) : TFa := y.2
abbrev w_f11 (x : X_f11) : TFa := x.2
def J_f11 : BT Tryz.prog :=
 Bg Tryz.prog Tryz.f114 27 [(3, 3)] [] [(1, [.HR (.par 0) [.Bk 2 3] 9])] [.back (.loc 13 0), .back (.loc 9 0)] [.any] [sh_TFa] [con_fz, con_f13, con_f1e] RR_f11 [(0, [⟨.loc 9 0, .par 0, [.Bk 2 3], none, none⟩])] fun y => [V.bool y.1, e_TFa y.2]
def S_f11 : AR :=
 Aq Tryz.f114 2 1 X_f11 (fun x => [(V.ptr (.par 0) []), e_TAk x.1, e_TFa x.2]) fun l => (d_TAk (at_ l 1), d_TFa (at_ l 2))
def tt_f11 (x : X_f11) : TT Tryz.prog RR_f11 :=
 (.need (BQ x.fst.Ring x.snd.rings.n) <|
 (.need (((Nat.beq x.snd.rings.n x.snd.rings.n) && true) && (!(x.snd.rings.get ((0 : Nat) + (Int.toNat x.fst.Ring))).nil)) <|
 (.ite (Ae x.fst.Kind 1)
 (.call con_fz (x.snd.rings.get ((0 : Nat) + (Int.toNat x.fst.Ring))).x fun (y1 : R_fz) =>
 (.ite y1
 (.need ((true && true) && (((Nat.beq x.snd.rings.n x.snd.rings.n) && (Nat.blt ((0 : Nat) + (Int.toNat x.fst.Ring)) x.snd.rings.n)) && (!(x.snd.rings.get ((0 : Nat) + (Int.toNat x.fst.Ring))).nil))) <|
 (.side (((fun v : Nat → V => v = v) (fun i2 => (cond (Nat.beq i2 ((0 : Nat) + (Int.toNat x.fst.Ring))) (V.ptr (Id.loc 13 0) List.nil) (V.Af (x.snd.rings.get i2).nil (V.cons (V.cons (V.int IntKind.u64 (x.snd.rings.get i2).x.AA.tail) (V.cons (V.A0 36 1 (x.snd.rings.get i2).x.AA.AD.nil (x.snd.rings.get i2).x.AA.AD.n (fun i3 => (V.int IntKind.u64 ((x.snd.rings.get i2).x.AA.AD.get i3)))) V.unit)) (V.cons (V.Af (x.snd.rings.get i2).x.s.nil (V.cons (V.A0 175 3 (x.snd.rings.get i2).x.s.x.l.nil (x.snd.rings.get i2).x.s.x.l.n (fun i3 => (V.cons (V.int IntKind.u64 ((x.snd.rings.get i2).x.s.x.l.get i3).AQ) (V.cons (V.int IntKind.u64 ((x.snd.rings.get i2).x.s.x.l.get i3).Value) (V.cons (V.int IntKind.i64 ((x.snd.rings.get i2).x.s.x.l.get i3).Left) V.unit))))) (V.cons (V.int IntKind.i64 (x.snd.rings.get i2).x.s.x.AO) V.unit))) (V.cons (V.int IntKind.u64 (x.snd.rings.get i2).x.most) (V.cons (V.bool (x.snd.rings.get i2).x.closed) V.unit)))))))) ∧ (((fun v : V => v = v) (V.cons (V.cons (V.int IntKind.u64 (x.snd.rings.get ((0 : Nat) + (Int.toNat x.fst.Ring))).x.AA.tail) (V.cons (V.A0 36 1 (x.snd.rings.get ((0 : Nat) + (Int.toNat x.fst.Ring))).x.AA.AD.nil (x.snd.rings.get ((0 : Nat) + (Int.toNat x.fst.Ring))).x.AA.AD.n (fun i2 => (V.int IntKind.u64 ((x.snd.rings.get ((0 : Nat) + (Int.toNat x.fst.Ring))).x.AA.AD.get i2)))) V.unit)) (V.cons (V.Af (x.snd.rings.get ((0 : Nat) + (Int.toNat x.fst.Ring))).x.s.nil (V.cons (V.A0 175 3 (x.snd.rings.get ((0 : Nat) + (Int.toNat x.fst.Ring))).x.s.x.l.nil (x.snd.rings.get ((0 : Nat) + (Int.toNat x.fst.Ring))).x.s.x.l.n (fun i2 => (V.cons (V.int IntKind.u64 ((x.snd.rings.get ((0 : Nat) + (Int.toNat x.fst.Ring))).x.s.x.l.get i2).AQ) (V.cons (V.int IntKind.u64 ((x.snd.rings.get ((0 : Nat) + (Int.toNat x.fst.Ring))).x.s.x.l.get i2).Value) (V.cons (V.int IntKind.i64 ((x.snd.rings.get ((0 : Nat) + (Int.toNat x.fst.Ring))).x.s.x.l.get i2).Left) V.unit))))) (V.cons (V.int IntKind.i64 (x.snd.rings.get ((0 : Nat) + (Int.toNat x.fst.Ring))).x.s.x.AO) V.unit))) (V.cons (V.int IntKind.u64 (x.snd.rings.get ((0 : Nat) + (Int.toNat x.fst.Ring))).x.most) (V.cons (V.bool (x.snd.rings.get ((0 : Nat) + (Int.toNat x.fst.Ring))).x.closed) V.unit))))) ∧ ((fun v : V => v = v) (V.Af (x.snd.rings.get ((0 : Nat) + (Int.toNat x.fst.Ring))).nil (V.cons (V.cons (V.int IntKind.u64 (x.snd.rings.get ((0 : Nat) + (Int.toNat x.fst.Ring))).x.AA.tail) (V.cons (V.A0 36 1 (x.snd.rings.get ((0 : Nat) + (Int.toNat x.fst.Ring))).x.AA.AD.nil (x.snd.rings.get ((0 : Nat) + (Int.toNat x.fst.Ring))).x.AA.AD.n (fun i2 => (V.int IntKind.u64 ((x.snd.rings.get ((0 : Nat) + (Int.toNat x.fst.Ring))).x.AA.AD.get i2)))) V.unit)) (V.cons (V.Af (x.snd.rings.get ((0 : Nat) + (Int.toNat x.fst.Ring))).x.s.nil (V.cons (V.A0 175 3 (x.snd.rings.get ((0 : Nat) + (Int.toNat x.fst.Ring))).x.s.x.l.nil (x.snd.rings.get ((0 : Nat) + (Int.toNat x.fst.Ring))).x.s.x.l.n (fun i2 => (V.cons (V.int IntKind.u64 ((x.snd.rings.get ((0 : Nat) + (Int.toNat x.fst.Ring))).x.s.x.l.get i2).AQ) (V.cons (V.int IntKind.u64 ((x.snd.rings.get ((0 : Nat) + (Int.toNat x.fst.Ring))).x.s.x.l.get i2).Value) (V.cons (V.int IntKind.i64 ((x.snd.rings.get ((0 : Nat) + (Int.toNat x.fst.Ring))).x.s.x.l.get i2).Left) V.unit))))) (V.cons (V.int IntKind.i64 (x.snd.rings.get ((0 : Nat) + (Int.toNat x.fst.Ring))).x.s.x.AO) V.unit))) (V.cons (V.int IntKind.u64 (x.snd.rings.get ((0 : Nat) + (Int.toNat x.fst.Ring))).x.most) (V.cons (V.bool (x.snd.rings.get ((0 : Nat) + (Int.toNat x.fst.Ring))).x.closed) V.unit)))))))) <|
 (.need ((true && true) && (Nat.beq x.snd.rings.n x.snd.rings.n)) <|
 (.ret (true, x.snd)))))
 (.call con_f1e (x.snd.rings.get ((0 : Nat) + (Int.toNat x.fst.Ring))).x fun (y2 : R_f1e) =>
 (.need ((true && true) && (((Nat.beq x.snd.rings.n x.snd.rings.n) && (Nat.blt ((0 : Nat) + (Int.toNat x.fst.Ring)) x.snd.rings.n)) && (!(x.snd.rings.get ((0 : Nat) + (Int.toNat x.fst.Ring))).nil))) <|
 (.side (((fun v : Nat → V => v = v) (fun i3 => (cond (Nat.beq i3 ((0 : Nat) + (Int.toNat x.fst.Ring))) (V.ptr (Id.loc 13 0) List.nil) (V.Af (x.snd.rings.get i3).nil (V.cons (V.cons (V.int IntKind.u64 (x.snd.rings.get i3).x.AA.tail) (V.cons (V.A0 36 1 (x.snd.rings.get i3).x.AA.AD.nil (x.snd.rings.get i3).x.AA.AD.n (fun i4 => (V.int IntKind.u64 ((x.snd.rings.get i3).x.AA.AD.get i4)))) V.unit)) (V.cons (V.Af (x.snd.rings.get i3).x.s.nil (V.cons (V.A0 175 3 (x.snd.rings.get i3).x.s.x.l.nil (x.snd.rings.get i3).x.s.x.l.n (fun i4 => (V.cons (V.int IntKind.u64 ((x.snd.rings.get i3).x.s.x.l.get i4).AQ) (V.cons (V.int IntKind.u64 ((x.snd.rings.get i3).x.s.x.l.get i4).Value) (V.cons (V.int IntKind.i64 ((x.snd.rings.get i3).x.s.x.l.get i4).Left) V.unit))))) (V.cons (V.int IntKind.i64 (x.snd.rings.get i3).x.s.x.AO) V.unit))) (V.cons (V.int IntKind.u64 (x.snd.rings.get i3).x.most) (V.cons (V.bool (x.snd.rings.get i3).x.closed) V.unit)))))))) ∧ (((fun v : V => v = v) (V.cons (V.cons (V.int IntKind.u64 (x.snd.rings.get ((0 : Nat) + (Int.toNat x.fst.Ring))).x.AA.tail) (V.cons (V.A0 36 1 (x.snd.rings.get ((0 : Nat) + (Int.toNat x.fst.Ring))).x.AA.AD.nil (x.snd.rings.get ((0 : Nat) + (Int.toNat x.fst.Ring))).x.AA.AD.n (fun i3 => (V.int IntKind.u64 ((x.snd.rings.get ((0 : Nat) + (Int.toNat x.fst.Ring))).x.AA.AD.get i3)))) V.unit)) (V.cons (V.Af (x.snd.rings.get ((0 : Nat) + (Int.toNat x.fst.Ring))).x.s.nil (V.cons (V.A0 175 3 (x.snd.rings.get ((0 : Nat) + (Int.toNat x.fst.Ring))).x.s.x.l.nil (x.snd.rings.get ((0 : Nat) + (Int.toNat x.fst.Ring))).x.s.x.l.n (fun i3 => (V.cons (V.int IntKind.u64 ((x.snd.rings.get ((0 : Nat) + (Int.toNat x.fst.Ring))).x.s.x.l.get i3).AQ) (V.cons (V.int IntKind.u64 ((x.snd.rings.get ((0 : Nat) + (Int.toNat x.fst.Ring))).x.s.x.l.get i3).Value) (V.cons (V.int IntKind.i64 ((x.snd.rings.get ((0 : Nat) + (Int.toNat x.fst.Ring))).x.s.x.l.get i3).Left) V.unit))))) (V.cons (V.int IntKind.i64 (x.snd.rings.get ((0 : Nat) + (Int.toNat x.fst.Ring))).x.s.x.AO) V.unit))) (V.cons (V.int IntKind.u64 (x.snd.rings.get ((0 : Nat) + (Int.toNat x.fst.Ring))).x.most) (V.cons (V.bool (x.snd.rings.get ((0 : Nat) + (Int.toNat x.fst.Ring))).x.closed) V.unit))))) ∧ ((fun v : V => v = v) (V.Af (x.snd.rings.get ((0 : Nat) + (Int.toNat x.fst.Ring))).nil (V.cons (V.cons (V.int IntKind.u64 (x.snd.rings.get ((0 : Nat) + (Int.toNat x.fst.Ring))).x.AA.tail) (V.cons (V.A0 36 1 (x.snd.rings.get ((0 : Nat) + (Int.toNat x.fst.Ring))).x.AA.AD.nil (x.snd.rings.get ((0 : Nat) + (Int.toNat x.fst.Ring))).x.AA.AD.n (fun i3 => (V.int IntKind.u64 ((x.snd.rings.get ((0 : Nat) + (Int.toNat x.fst.Ring))).x.AA.AD.get i3)))) V.unit)) (V.cons (V.Af (x.snd.rings.get ((0 : Nat) + (Int.toNat x.fst.Ring))).x.s.nil (V.cons (V.A0 175 3 (x.snd.rings.get ((0 : Nat) + (Int.toNat x.fst.Ring))).x.s.x.l.nil (x.snd.rings.get ((0 : Nat) + (Int.toNat x.fst.Ring))).x.s.x.l.n (fun i3 => (V.cons (V.int IntKind.u64 ((x.snd.rings.get ((0 : Nat) + (Int.toNat x.fst.Ring))).x.s.x.l.get i3).AQ) (V.cons (V.int IntKind.u64 ((x.snd.rings.get ((0 : Nat) + (Int.toNat x.fst.Ring))).x.s.x.l.get i3).Value) (V.cons (V.int IntKind.i64 ((x.snd.rings.get ((0 : Nat) + (Int.toNat x.fst.Ring))).x.s.x.l.get i3).Left) V.unit))))) (V.cons (V.int IntKind.i64 (x.snd.rings.get ((0 : Nat) + (Int.toNat x.fst.Ring))).x.s.x.AO) V.unit))) (V.cons (V.int IntKind.u64 (x.snd.rings.get ((0 : Nat) + (Int.toNat x.fst.Ring))).x.most) (V.cons (V.bool (x.snd.rings.get ((0 : Nat) + (Int.toNat x.fst.Ring))).x.closed) V.unit)))))))) <|
 (.need ((true && true) && (Nat.beq x.snd.rings.n x.snd.rings.n)) <|
 (.ret (y2, x.snd))))))))
 (.call con_f13 (x.fst.Reader, (x.snd.rings.get ((0 : Nat) + (Int.toNat x.fst.Ring))).x) fun (y1 : R_f13) =>
 (.need ((true && true) && (((Nat.beq x.snd.rings.n x.snd.rings.n) && (Nat.blt ((0 : Nat) + (Int.toNat x.fst.Ring)) x.snd.rings.n)) && (!(x.snd.rings.get ((0 : Nat) + (Int.toNat x.fst.Ring))).nil))) <|
 (.side (((fun v : Nat → V => v = v) (fun i2 => (cond (Nat.beq i2 ((0 : Nat) + (Int.toNat x.fst.Ring))) (V.ptr (Id.loc 13 0) List.nil) (V.Af (x.snd.rings.get i2).nil (V.cons (V.cons (V.int IntKind.u64 (x.snd.rings.get i2).x.AA.tail) (V.cons (V.A0 36 1 (x.snd.rings.get i2).x.AA.AD.nil (x.snd.rings.get i2).x.AA.AD.n (fun i3 => (V.int IntKind.u64 ((x.snd.rings.get i2).x.AA.AD.get i3)))) V.unit)) (V.cons (V.Af (x.snd.rings.get i2).x.s.nil (V.cons (V.A0 175 3 (x.snd.rings.get i2).x.s.x.l.nil (x.snd.rings.get i2).x.s.x.l.n (fun i3 => (V.cons (V.int IntKind.u64 ((x.snd.rings.get i2).x.s.x.l.get i3).AQ) (V.cons (V.int IntKind.u64 ((x.snd.rings.get i2).x.s.x.l.get i3).Value) (V.cons (V.int IntKind.i64 ((x.snd.rings.get i2).x.s.x.l.get i3).Left) V.unit))))) (V.cons (V.int IntKind.i64 (x.snd.rings.get i2).x.s.x.AO) V.unit))) (V.cons (V.int IntKind.u64 (x.snd.rings.get i2).x.most) (V.cons (V.bool (x.snd.rings.get i2).x.closed) V.unit)))))))) ∧ (((fun v : V => v = v) (V.cons (V.cons (V.int IntKind.u64 (x.snd.rings.get ((0 : Nat) + (Int.toNat x.fst.Ring))).x.AA.tail) (V.cons (V.A0 36 1 (x.snd.rings.get ((0 : Nat) + (Int.toNat x.fst.Ring))).x.AA.AD.nil (x.snd.rings.get ((0 : Nat) + (Int.toNat x.fst.Ring))).x.AA.AD.n (fun i2 => (V.int IntKind.u64 ((x.snd.rings.get ((0 : Nat) + (Int.toNat x.fst.Ring))).x.AA.AD.get i2)))) V.unit)) (V.cons (V.Af (x.snd.rings.get ((0 : Nat) + (Int.toNat x.fst.Ring))).x.s.nil (V.cons (V.A0 175 3 (x.snd.rings.get ((0 : Nat) + (Int.toNat x.fst.Ring))).x.s.x.l.nil (x.snd.rings.get ((0 : Nat) + (Int.toNat x.fst.Ring))).x.s.x.l.n (fun i2 => (V.cons (V.int IntKind.u64 ((x.snd.rings.get ((0 : Nat) + (Int.toNat x.fst.Ring))).x.s.x.l.get i2).AQ) (V.cons (V.int IntKind.u64 ((x.snd.rings.get ((0 : Nat) + (Int.toNat x.fst.Ring))).x.s.x.l.get i2).Value) (V.cons (V.int IntKind.i64 ((x.snd.rings.get ((0 : Nat) + (Int.toNat x.fst.Ring))).x.s.x.l.get i2).Left) V.unit))))) (V.cons (V.int IntKind.i64 (x.snd.rings.get ((0 : Nat) + (Int.toNat x.fst.Ring))).x.s.x.AO) V.unit))) (V.cons (V.int IntKind.u64 (x.snd.rings.get ((0 : Nat) + (Int.toNat x.fst.Ring))).x.most) (V.cons (V.bool (x.snd.rings.get ((0 : Nat) + (Int.toNat x.fst.Ring))).x.closed) V.unit))))) ∧ ((fun v : V => v = v) (V.Af (x.snd.rings.get ((0 : Nat) + (Int.toNat x.fst.Ring))).nil (V.cons (V.cons (V.int IntKind.u64 (x.snd.rings.get ((0 : Nat) + (Int.toNat x.fst.Ring))).x.AA.tail) (V.cons (V.A0 36 1 (x.snd.rings.get ((0 : Nat) + (Int.toNat x.fst.Ring))).x.AA.AD.nil (x.snd.rings.get ((0 : Nat) + (Int.toNat x.fst.Ring))).x.AA.AD.n (fun i2 => (V.int IntKind.u64 ((x.snd.rings.get ((0 : Nat) + (Int.toNat x.fst.Ring))).x.AA.AD.get i2)))) V.unit)) (V.cons (V.Af (x.snd.rings.get ((0 : Nat) + (Int.toNat x.fst.Ring))).x.s.nil (V.cons (V.A0 175 3 (x.snd.rings.get ((0 : Nat) + (Int.toNat x.fst.Ring))).x.s.x.l.nil (x.snd.rings.get ((0 : Nat) + (Int.toNat x.fst.Ring))).x.s.x.l.n (fun i2 => (V.cons (V.int IntKind.u64 ((x.snd.rings.get ((0 : Nat) + (Int.toNat x.fst.Ring))).x.s.x.l.get i2).AQ) (V.cons (V.int IntKind.u64 ((x.snd.rings.get ((0 : Nat) + (Int.toNat x.fst.Ring))).x.s.x.l.get i2).Value) (V.cons (V.int IntKind.i64 ((x.snd.rings.get ((0 : Nat) + (Int.toNat x.fst.Ring))).x.s.x.l.get i2).Left) V.unit))))) (V.cons (V.int IntKind.i64 (x.snd.rings.get ((0 : Nat) + (Int.toNat x.fst.Ring))).x.s.x.AO) V.unit))) (V.cons (V.int IntKind.u64 (x.snd.rings.get ((0 : Nat) + (Int.toNat x.fst.Ring))).x.most) (V.cons (V.bool (x.snd.rings.get ((0 : Nat) + (Int.toNat x.fst.Ring))).x.closed) V.unit)))))))) <|
 (.need ((true && true) && (Nat.beq x.snd.rings.n x.snd.rings.n)) <|
 (.ret (y1, x.snd)))))))))
theorem sd_f11 (x : X_f11) : (tt_f11 x).AJ :=
 (TT.sN (TT.sN (TT.sI (TT.sC fun _ => (TT.sI (TT.sN (TT.sS ⟨rfl, ⟨rfl, rfl⟩⟩ (TT.sN TT.sR))) (TT.sC fun _ => (TT.sN (TT.sS ⟨rfl, ⟨rfl, rfl⟩⟩ (TT.sN TT.sR)))))) (TT.sC fun _ => (TT.sN (TT.sS ⟨rfl, ⟨rfl, rfl⟩⟩ (TT.sN TT.sR)))))))
theorem roT_f11 (x : X_f11) : TT.Ro p_f11 (w_f11 x) (tt_f11 x) :=
 (TT.rN (TT.rN (TT.rI (TT.rC fun _ => (TT.rI (TT.rN (TT.rS (TT.rN (TT.rR rfl)))) (TT.rC fun _ => (TT.rN (TT.rS (TT.rN (TT.rR rfl))))))) (TT.rC fun _ => (TT.rN (TT.rS (TT.rN (TT.rR rfl))))))))
def D_f11 : AS X_f11 R_f11 := .ro (.of tt_f11) (fun y => (y.1)) (fun y x => (y, x.2)) fun x y h => congrArg (fun o => (y.1, o)) (roT_f11 x y h)
def con_f11 : BN Tryz.prog :=
 DC 114 J_f11 S_f11 (.of tt_f11) D_f11 (fun y x => (y, x.2)) (fun y => V.bool y) 2 1 [.any, .any] (lk mxk lbn sd_f11) (fun x => ⟨(nu_e_TFa : ∀ y, (e_TFa y).Cd) (x.2), trivial⟩)
structure TSs_L0 where
 l : Ln
 AO : Int
def d_TSs_L0 (v : V) : TSs_L0 :=
 ⟨Rg (fd v 0), dI (fd v 1)⟩
def e_TSs_L0_1 (x : TSs_L0) : V :=
 V.cons ((eLn (.par 1) 175 3) x.l) (V.cons ((V.int .i64) x.AO) (V.unit))
theorem nu_e_TSs_L0_1 (x : TSs_L0) : (e_TSs_L0_1 x).Cd := ⟨trivial, trivial, trivial⟩
abbrev X_fq : Type := Int × TSs_L0 × (Ar TSo)
abbrev R_fq : Type := (Nat × Nat)
abbrev RR_fq : Type := (Nat × Nat) × TSs_L0 × (Ar TSo)
abbrev p_fq (y : RR_fq) : TSs_L0 × (Ar TSo) := y.2
abbrev w_fq (x : X_fq) : TSs_L0 × (Ar TSo) := x.2
def J_fq : BT Tryz.prog :=
 Bg Tryz.prog Tryz.f191 18 [] [] [] [.Eg 4] [.any] [.any, .any] [] RR_fq [] fun y => [(ePt 1 3) y.1, e_TSs_L0_1 y.2.1, (Lv 3 e_TSo) y.2.2]
def S_fq : AR :=
 Aq Tryz.f191 2 2 X_fq (fun x => [(V.ptr (.par 0) []), (V.int .u64) x.1, e_TSs_L0_1 x.2.1, (Lv 3 e_TSo) x.2.2]) fun l => (dI (at_ l 1), d_TSs_L0 (at_ l 2), (RN d_TSo) (at_ l 3))
def tt_fq (x : X_fq) : TT Tryz.prog RR_fq :=
 (.need (!(Ae (IntKind.u64.wrap ((x.snd.fst.l.n : Nat) : Int)) 0)) <|
 (.need (BQ (Int.tmod x.fst (IntKind.u64.wrap ((x.snd.fst.l.n : Nat) : Int))) x.snd.fst.l.n) <|
 (.ret ((((0 : Nat) + (Int.toNat (Int.tmod x.fst (IntKind.u64.wrap ((x.snd.fst.l.n : Nat) : Int))))), x.snd.fst.l.n), (x.snd.fst, x.snd.snd)))))
theorem sd_fq (x : X_fq) : (tt_fq x).AJ :=
 (TT.sN (TT.sN TT.sR))
theorem roT_fq (x : X_fq) : TT.Ro p_fq (w_fq x) (tt_fq x) :=
 (TT.rN (TT.rN (TT.rR rfl)))
def D_fq : AS X_fq R_fq := .ro (.of tt_fq) (fun y => (y.1)) (fun y x => (y, x.2)) fun x y h => congrArg (fun o => (y.1, o)) (roT_fq x y h)
def con_fq : BN Tryz.prog :=
 DC 191 J_fq S_fq (.of tt_fq) D_fq (fun y x => (y, x.2)) (fun y => (ePt 1 3) y) 2 2 [.any, .any] (lk mxk lbn sd_fq) (fun x => ⟨(nu_e_TSs_L0_1 : ∀ y, (e_TSs_L0_1 y).Cd) (x.2.1), (fun _ _ => (nu_e_TSo) _ : ∀ y, ((Lv 3 e_TSo) y).Cd) (x.2.2), trivial⟩)
abbrev X_f1j : Type := Int × TSs
abbrev R_f1j : Type := Bool
abbrev RR_f1j : Type := Bool × TSs
abbrev p_f1j (y : RR_f1j) : TSs := y.2
abbrev w_f1j (x : X_f1j) : TSs := x.2
def J_f1j : BT Tryz.prog :=
 Bg Tryz.prog Tryz.f189 22 [] [] [(1, [.HR (.par 0) [.Bk 0 0] 14])] [.back (.loc 14 0)] [.any] [sh_TSs] [con_fq, con_f2a] RR_f1j [(0, [⟨.loc 14 0, .par 0, [.Bk 0 0], none, none⟩])] fun y => [V.bool y.1, e_TSs y.2]
def S_f1j : AR :=
 Aq Tryz.f189 2 1 X_f1j (fun x => [(V.ptr (.par 0) []), (V.int .u64) x.1, e_TSs x.2]) fun l => (dI (at_ l 1), d_TSs (at_ l 2))
def tt_f1j (x : X_f1j) : TT Tryz.prog RR_f1j :=
 (.ite (B8 x.fst 4611686018427387904)
 (.call con_fq (x.fst, ((TSs_L0.mk (Ln.mk x.snd.l.nil x.snd.l.n) x.snd.AO), (Ar.mk x.snd.l.n x.snd.l.get))) fun (y1 : R_fq) =>
 (.need ((Nat.beq x.snd.l.n y1.snd) && true) <|
 (.call con_f2a x.fst fun (y2 : R_f2a) =>
 (.need ((true && true) && (Nat.beq x.snd.l.n x.snd.l.n)) <|
 (.ret ((Ae (x.snd.l.get y1.fst).AQ y2), x.snd))))))
 (.need ((true && true) && (Nat.beq x.snd.l.n x.snd.l.n)) <|
 (.ret (false, x.snd))))
theorem sd_f1j (x : X_f1j) : (tt_f1j x).AJ :=
 (TT.sI (TT.sC fun _ => (TT.sN (TT.sC fun _ => (TT.sN TT.sR)))) (TT.sN TT.sR))
theorem roT_f1j (x : X_f1j) : TT.Ro p_f1j (w_f1j x) (tt_f1j x) :=
 (TT.rI (TT.rC fun _ => (TT.rN (TT.rC fun _ => (TT.rN (TT.rR rfl))))) (TT.rN (TT.rR rfl)))
def D_f1j : AS X_f1j R_f1j := .ro (.of tt_f1j) (fun y => (y.1)) (fun y x => (y, x.2)) fun x y h => congrArg (fun o => (y.1, o)) (roT_f1j x y h)
def con_f1j : BN Tryz.prog :=
 DC 189 J_f1j S_f1j (.of tt_f1j) D_f1j (fun y x => (y, x.2)) (fun y => V.bool y) 2 1 [.any, .any] (lk mxk lbn sd_f1j) (fun x => ⟨(nu_e_TSs : ∀ y, (e_TSs y).Cd) (x.2), trivial⟩)
abbrev X_f1x : Type := Int × TRr
abbrev R_f1x : Type := Bool
abbrev RR_f1x : Type := Bool × TRr
abbrev p_f1x (y : RR_f1x) : TRr := y.2
abbrev w_f1x (x : X_f1x) : TRr := x.2
def J_f1x : BT Tryz.prog :=
 Bg Tryz.prog Tryz.f163 24 [] [] [] [.back (.loc 20 0)] [.any] [sh_TRr] [con_f1j] RR_f1x [] fun y => [V.bool y.1, e_TRr y.2]
def S_f1x : AR :=
 Aq Tryz.f163 2 1 X_f1x (fun x => [(V.ptr (.par 0) []), (V.int .u64) x.1, e_TRr x.2]) fun l => (dI (at_ l 1), d_TRr (at_ l 2))
def tt_f1x (x : X_f1x) : TT Tryz.prog RR_f1x :=
 (.ite (B8 x.fst x.snd.AA.tail)
 (.need (true && (!x.snd.s.nil)) <|
 (.call con_f1j (x.fst, x.snd.s.x) fun (y1 : R_f1j) =>
 (.need ((true && true) && (!x.snd.s.nil)) <|
 (.side ((fun v : V => v = v) (V.cons (V.A0 175 3 x.snd.s.x.l.nil x.snd.s.x.l.n (fun i2 => (V.cons (V.int IntKind.u64 (x.snd.s.x.l.get i2).AQ) (V.cons (V.int IntKind.u64 (x.snd.s.x.l.get i2).Value) (V.cons (V.int IntKind.i64 (x.snd.s.x.l.get i2).Left) V.unit))))) (V.cons (V.int IntKind.i64 x.snd.s.x.AO) V.unit))) <|
 (.ret (y1, x.snd))))))
 (.ret (false, x.snd)))
theorem sd_f1x (x : X_f1x) : (tt_f1x x).AJ :=
 (TT.sI (TT.sN (TT.sC fun _ => (TT.sN (TT.sS rfl TT.sR)))) TT.sR)
theorem roT_f1x (x : X_f1x) : TT.Ro p_f1x (w_f1x x) (tt_f1x x) :=
 (TT.rI (TT.rN (TT.rC fun _ => (TT.rN (TT.rS (TT.rR rfl))))) (TT.rR rfl))
def D_f1x : AS X_f1x R_f1x := .ro (.of tt_f1x) (fun y => (y.1)) (fun y x => (y, x.2)) fun x y h => congrArg (fun o => (y.1, o)) (roT_f1x x y h)
def con_f1x : BN Tryz.prog :=
 DC 163 J_f1x S_f1x (.of tt_f1x) D_f1x (fun y x => (y, x.2)) (fun y => V.bool y) 2 1 [.any, .any] (lk mxk lbn sd_f1x) (fun x => ⟨(nu_e_TRr : ∀ y, (e_TRr y).Cd) (x.2), trivial⟩)
abbrev X_f2o : Type := Int
abbrev R_f2o : Type := Int
def J_f2o : BT Tryz.prog :=
 Bg Tryz.prog Tryz.f192 6 [] [] [] [] [.any] [] [] R_f2o [] fun y => [(V.int .u64) y]
def S_f2o : AR :=
 Aq Tryz.f192 1 0 X_f2o (fun x => [(V.int .u64) x]) fun l => (dI (at_ l 0))
def tt_f2o (x : X_f2o) : TT Tryz.prog R_f2o :=
 (.ret (IntKind.u64.wrap ((IntKind.u64.wrap ((2 : Int) * x)) + 1)))
theorem sd_f2o (x : X_f2o) : (tt_f2o x).AJ :=
 TT.sR
def D_f2o : AS X_f2o R_f2o := .of tt_f2o
def con_f2o : BN Tryz.prog :=
 CY 192 J_f2o S_f2o D_f2o 1 0 [.any] (lk mxk lbn sd_f2o)
abbrev X_fl : Type := Int × Int × TSs
abbrev R_fl : Type := Int
abbrev RR_fl : Type := Int × TSs
abbrev p_fl (y : RR_fl) : TSs := y.2
abbrev w_fl (x : X_fl) : TSs := x.2.2
def J_fl : BT Tryz.prog :=
 Bg Tryz.prog Tryz.f193 51 [] [(7, [.back (.loc 26 0)]), (10, [.back (.loc 26 0)]), (11, [.back (.loc 26 0)])] [(5, [.HR (.par 0) [.Bk 0 0] 26])] [.back (.loc 26 0)] [.any] [sh_TSs] [con_fq, con_f2o] RR_fl [(0, [⟨.loc 26 0, .par 0, [.Bk 0 0], none, none⟩]), (5, [⟨.loc 26 0, .par 0, [.Bk 0 0], none, none⟩])] fun y => [(V.int .i64) y.1, e_TSs y.2]
def S_fl : AR :=
 Aq Tryz.f193 3 1 X_fl (fun x => [(V.ptr (.par 0) []), (V.int .i64) x.1, (V.int .u64) x.2.1, e_TSs x.2.2]) fun l => (dI (at_ l 1), dI (at_ l 2), d_TSs (at_ l 3))
structure X_fl_5 where
 NC : Int
 t_2 : Int
 Ad : TSs
def S_fl_5 : AR :=
 Ai Tryz.f193 5 (an [0, 1, 2]) [sh_TSs] [] X_fl_5 (fun x => [(V.ptr (.par 0) []), (V.int .i64) x.NC, (V.int .u64) x.t_2, e_TSs x.Ad]) fun l => ⟨dI (at_ l 1), dI (at_ l 2), d_TSs (at_ l 3)⟩
abbrev w_fl_5 (x : X_fl_5) : TSs := (x.Ad)
def tt_fl_5 (x : X_fl_5) : TT Tryz.prog RR_fl :=
 (.call con_fq (x.t_2, ((TSs_L0.mk (Ln.mk x.Ad.l.nil x.Ad.l.n) x.Ad.AO), (Ar.mk x.Ad.l.n x.Ad.l.get))) fun (y1 : R_fq) =>
 (.need ((Nat.beq x.Ad.l.n y1.snd) && true) <|
 (.call con_f2o x.t_2 fun (y2 : R_f2o) =>
 (.ite (B8 (x.Ad.l.get y1.fst).AQ y2)
 (.need ((true && true) && (Nat.beq x.Ad.l.n x.Ad.l.n)) <|
 (.ret (9, x.Ad)))
 (.need ((Nat.beq x.Ad.l.n y1.snd) && true) <|
 (.call con_f2o x.t_2 fun (y3 : R_f2o) =>
 (.ite (B8 y3 (x.Ad.l.get y1.fst).AQ)
 (.need ((true && true) && (Nat.beq x.Ad.l.n x.Ad.l.n)) <|
 (.ret (11, x.Ad)))
 (.need ((Nat.beq x.Ad.l.n y1.snd) && true) <|
 (.need (B6 0 x.NC) <|
 (.ite (Ae (Vm.bits .and IntKind.i64 (shr IntKind.i64 (x.Ad.l.get y1.fst).Left x.NC) 1) 0)
 (.need ((true && true) && (Nat.beq x.Ad.l.n x.Ad.l.n)) <|
 (.ret (11, x.Ad)))
 (.need ((true && true) && (Nat.beq x.Ad.l.n x.Ad.l.n)) <|
 (.ret (0, x.Ad)))))))))))))
theorem sd_fl_5 (x : X_fl_5) : (tt_fl_5 x).AJ :=
 (TT.sC fun _ => (TT.sN (TT.sC fun _ => (TT.sI (TT.sN TT.sR) (TT.sN (TT.sC fun _ => (TT.sI (TT.sN TT.sR) (TT.sN (TT.sN (TT.sI (TT.sN TT.sR) (TT.sN TT.sR)))))))))))
theorem roT_fl_5 (x : X_fl_5) : TT.Ro p_fl (w_fl_5 x) (tt_fl_5 x) :=
 (TT.rC fun _ => (TT.rN (TT.rC fun _ => (TT.rI (TT.rN (TT.rR rfl)) (TT.rN (TT.rC fun _ => (TT.rI (TT.rN (TT.rR rfl)) (TT.rN (TT.rN (TT.rI (TT.rN (TT.rR rfl)) (TT.rN (TT.rR rfl))))))))))))
def D_fl_5 : AS X_fl_5 RR_fl := .of tt_fl_5
theorem ok_fl_5 : AX J_fl S_fl_5 D_fl_5 :=
 lk mxk lbn sd_fl_5
theorem ro_fl_5 : ∀ x y, D_fl_5.rel x y → p_fl y = w_fl_5 x :=
 roT_fl_5 
def tt_fl (x : X_fl) : TT Tryz.prog RR_fl :=
 (.ite (B6 4611686018427387904 x.snd.fst)
 (.ret (1, x.snd.snd))
 (.ite (B8 x.fst 0)
 (.ret (1, x.snd.snd))
 (.ite (B6 x.snd.snd.AO x.fst)
 (.ret (1, x.snd.snd))
 (.Ab S_fl_5 D_fl_5 (X_fl_5.mk x.fst x.snd.fst x.snd.snd)))))
theorem sd_fl (x : X_fl) : (tt_fl x).AJ :=
 (TT.sI TT.sR (TT.sI TT.sR (TT.sI TT.sR TT.sJ)))
theorem roT_fl (x : X_fl) : TT.Ro p_fl (w_fl x) (tt_fl x) :=
 (TT.rI (TT.rR rfl) (TT.rI (TT.rR rfl) (TT.rI (TT.rR rfl) (TT.rJ (ro_fl_5 _)))))
def D_fl : AS X_fl R_fl := .ro (.of tt_fl) (fun y => (y.1)) (fun y x => (y, x.2.2)) fun x y h => congrArg (fun o => (y.1, o)) (roT_fl x y h)
def con_fl : BN Tryz.prog :=
 DC 193 J_fl S_fl (.of tt_fl) D_fl (fun y x => (y, x.2.2)) (fun y => (V.int .i64) y) 3 1 [.any, .any, .any] (lk mxk (lbc ok_fl_5 rfl lbn) sd_fl) (fun x => ⟨(nu_e_TSs : ∀ y, (e_TSs y).Cd) (x.2.2), trivial⟩)
abbrev X_f1r : Type := Int × Int × TSs
abbrev R_f1r : Type := Bool
abbrev RR_f1r : Type := Bool × TSs
abbrev p_f1r (y : RR_f1r) : TSs := y.2
abbrev w_f1r (x : X_f1r) : TSs := x.2.2
def J_f1r : BT Tryz.prog :=
 Bg Tryz.prog Tryz.f190 12 [] [] [] [] [.any] [sh_TSs] [con_fl] RR_f1r [] fun y => [V.bool y.1, e_TSs y.2]
def S_f1r : AR :=
 Aq Tryz.f190 3 1 X_f1r (fun x => [(V.ptr (.par 0) []), (V.int .i64) x.1, (V.int .u64) x.2.1, e_TSs x.2.2]) fun l => (dI (at_ l 1), dI (at_ l 2), d_TSs (at_ l 3))
def tt_f1r (x : X_f1r) : TT Tryz.prog RR_f1r :=
 (.call con_fl x fun (y1 : R_fl) =>
 (.ret ((Ae y1 0), x.snd.snd)))
theorem sd_f1r (x : X_f1r) : (tt_f1r x).AJ :=
 (TT.sC fun _ => TT.sR)
theorem roT_f1r (x : X_f1r) : TT.Ro p_f1r (w_f1r x) (tt_f1r x) :=
 (TT.rC fun _ => (TT.rR rfl))
def D_f1r : AS X_f1r R_f1r := .ro (.of tt_f1r) (fun y => (y.1)) (fun y x => (y, x.2.2)) fun x y h => congrArg (fun o => (y.1, o)) (roT_f1r x y h)
def con_f1r : BN Tryz.prog :=
 DC 190 J_f1r S_f1r (.of tt_f1r) D_f1r (fun y x => (y, x.2.2)) (fun y => V.bool y) 3 1 [.any, .any, .any] (lk mxk lbn sd_f1r) (fun x => ⟨(nu_e_TSs : ∀ y, (e_TSs y).Cd) (x.2.2), trivial⟩)
abbrev X_f24 : Type := Int × Int × TRr
abbrev R_f24 : Type := Bool
abbrev RR_f24 : Type := Bool × TRr
abbrev p_f24 (y : RR_f24) : TRr := y.2
abbrev w_f24 (x : X_f24) : TRr := x.2.2
def J_f24 : BT Tryz.prog :=
 Bg Tryz.prog Tryz.f164 37 [] [] [] [.back (.loc 32 0), .back (.loc 22 0)] [.any] [sh_TRr] [con_ft, con_f1r] RR_f24 [] fun y => [V.bool y.1, e_TRr y.2]
def S_f24 : AR :=
 Aq Tryz.f164 3 1 X_f24 (fun x => [(V.ptr (.par 0) []), (V.int .i64) x.1, (V.int .u64) x.2.1, e_TRr x.2.2]) fun l => (dI (at_ l 1), dI (at_ l 2), d_TRr (at_ l 3))
def tt_f24 (x : X_f24) : TT Tryz.prog RR_f24 :=
 (.call con_ft (x.fst, x.snd.snd.AA) fun (y1 : R_ft) =>
 (.ite y1
 (.need (BQ x.fst x.snd.snd.AA.AD.n) <|
 (.need ((Nat.beq x.snd.snd.AA.AD.n x.snd.snd.AA.AD.n) && true) <|
 (.ite (B8 x.snd.fst (x.snd.snd.AA.AD.get ((0 : Nat) + (Int.toNat x.fst))))
 (.need (true && (!x.snd.snd.s.nil)) <|
 (.call con_f1r (x.fst, (x.snd.fst, x.snd.snd.s.x)) fun (y2 : R_f1r) =>
 (.need ((true && true) && (!x.snd.snd.s.nil)) <|
 (.side ((fun v : V => v = v) (V.cons (V.A0 175 3 x.snd.snd.s.x.l.nil x.snd.snd.s.x.l.n (fun i3 => (V.cons (V.int IntKind.u64 (x.snd.snd.s.x.l.get i3).AQ) (V.cons (V.int IntKind.u64 (x.snd.snd.s.x.l.get i3).Value) (V.cons (V.int IntKind.i64 (x.snd.snd.s.x.l.get i3).Left) V.unit))))) (V.cons (V.int IntKind.i64 x.snd.snd.s.x.AO) V.unit))) <|
 (.need ((true && true) && (Nat.beq x.snd.snd.AA.AD.n x.snd.snd.AA.AD.n)) <|
 (.ret (y2, x.snd.snd)))))))
 (.need ((true && true) && (Nat.beq x.snd.snd.AA.AD.n x.snd.snd.AA.AD.n)) <|
 (.ret (false, x.snd.snd))))))
 (.ret (false, x.snd.snd))))
theorem sd_f24 (x : X_f24) : (tt_f24 x).AJ :=
 (TT.sC fun _ => (TT.sI (TT.sN (TT.sN (TT.sI (TT.sN (TT.sC fun _ => (TT.sN (TT.sS rfl (TT.sN TT.sR))))) (TT.sN TT.sR)))) TT.sR))
theorem roT_f24 (x : X_f24) : TT.Ro p_f24 (w_f24 x) (tt_f24 x) :=
 (TT.rC fun _ => (TT.rI (TT.rN (TT.rN (TT.rI (TT.rN (TT.rC fun _ => (TT.rN (TT.rS (TT.rN (TT.rR rfl)))))) (TT.rN (TT.rR rfl))))) (TT.rR rfl)))
def D_f24 : AS X_f24 R_f24 := .ro (.of tt_f24) (fun y => (y.1)) (fun y x => (y, x.2.2)) fun x y h => congrArg (fun o => (y.1, o)) (roT_f24 x y h)
def con_f24 : BN Tryz.prog :=
 DC 164 J_f24 S_f24 (.of tt_f24) D_f24 (fun y x => (y, x.2.2)) (fun y => V.bool y) 3 1 [.any, .any, .any] (lk mxk lbn sd_f24) (fun x => ⟨(nu_e_TRr : ∀ y, (e_TRr y).Cd) (x.2.2), trivial⟩)
abbrev X_f18 : Type := TEv × TAk × TFa
abbrev R_f18 : Type := Bool
abbrev RR_f18 : Type := Bool × TFa
abbrev p_f18 (y : RR_f18) : TFa := y.2
abbrev w_f18 (x : X_f18) : TFa := x.2.2
def J_f18 : BT Tryz.prog :=
 Bg Tryz.prog Tryz.f116 65 [(4, 3), (5, 3)] [] [(1, [.HR (.par 0) [.Bk 2 3] 11])] [.back (.loc 15 0), .back (.loc 11 0)] [.any] [sh_TFa] [con_f13, con_f1x, con_f1e, con_f24, con_fm, con_f1h] RR_f18 [(0, [⟨.loc 11 0, .par 0, [.Bk 2 3], none, none⟩])] fun y => [V.bool y.1, e_TFa y.2]
def S_f18 : AR :=
 Aq Tryz.f116 3 1 X_f18 (fun x => [(V.ptr (.par 0) []), e_TEv x.1, e_TAk x.2.1, e_TFa x.2.2]) fun l => (d_TEv (at_ l 1), d_TAk (at_ l 2), d_TFa (at_ l 3))
def tt_f18 (x : X_f18) : TT Tryz.prog RR_f18 :=
 (.need (BQ x.fst.Ring x.snd.snd.rings.n) <|
 (.need (((Nat.beq x.snd.snd.rings.n x.snd.snd.rings.n) && true) && (!(x.snd.snd.rings.get ((0 : Nat) + (Int.toNat x.fst.Ring))).nil)) <|
 (.ite (Ae x.fst.Kind 1)
 (.call con_f1e (x.snd.snd.rings.get ((0 : Nat) + (Int.toNat x.fst.Ring))).x fun (y1 : R_f1e) =>
 (.ite (!y1)
 (.call con_f1h (x.snd.snd.rings.get ((0 : Nat) + (Int.toNat x.fst.Ring))).x fun (y2 : R_f1h) =>
 (.need ((true && true) && (((Nat.beq x.snd.snd.rings.n x.snd.snd.rings.n) && (Nat.blt ((0 : Nat) + (Int.toNat x.fst.Ring)) x.snd.snd.rings.n)) && (!(x.snd.snd.rings.get ((0 : Nat) + (Int.toNat x.fst.Ring))).nil))) <|
 (.side (((fun v : Nat → V => v = v) (fun i3 => (cond (Nat.beq i3 ((0 : Nat) + (Int.toNat x.fst.Ring))) (V.ptr (Id.loc 15 0) List.nil) (V.Af (x.snd.snd.rings.get i3).nil (V.cons (V.cons (V.int IntKind.u64 (x.snd.snd.rings.get i3).x.AA.tail) (V.cons (V.A0 36 1 (x.snd.snd.rings.get i3).x.AA.AD.nil (x.snd.snd.rings.get i3).x.AA.AD.n (fun i4 => (V.int IntKind.u64 ((x.snd.snd.rings.get i3).x.AA.AD.get i4)))) V.unit)) (V.cons (V.Af (x.snd.snd.rings.get i3).x.s.nil (V.cons (V.A0 175 3 (x.snd.snd.rings.get i3).x.s.x.l.nil (x.snd.snd.rings.get i3).x.s.x.l.n (fun i4 => (V.cons (V.int IntKind.u64 ((x.snd.snd.rings.get i3).x.s.x.l.get i4).AQ) (V.cons (V.int IntKind.u64 ((x.snd.snd.rings.get i3).x.s.x.l.get i4).Value) (V.cons (V.int IntKind.i64 ((x.snd.snd.rings.get i3).x.s.x.l.get i4).Left) V.unit))))) (V.cons (V.int IntKind.i64 (x.snd.snd.rings.get i3).x.s.x.AO) V.unit))) (V.cons (V.int IntKind.u64 (x.snd.snd.rings.get i3).x.most) (V.cons (V.bool (x.snd.snd.rings.get i3).x.closed) V.unit)))))))) ∧ (((fun v : V => v = v) (V.cons (V.cons (V.int IntKind.u64 (x.snd.snd.rings.get ((0 : Nat) + (Int.toNat x.fst.Ring))).x.AA.tail) (V.cons (V.A0 36 1 (x.snd.snd.rings.get ((0 : Nat) + (Int.toNat x.fst.Ring))).x.AA.AD.nil (x.snd.snd.rings.get ((0 : Nat) + (Int.toNat x.fst.Ring))).x.AA.AD.n (fun i3 => (V.int IntKind.u64 ((x.snd.snd.rings.get ((0 : Nat) + (Int.toNat x.fst.Ring))).x.AA.AD.get i3)))) V.unit)) (V.cons (V.Af (x.snd.snd.rings.get ((0 : Nat) + (Int.toNat x.fst.Ring))).x.s.nil (V.cons (V.A0 175 3 (x.snd.snd.rings.get ((0 : Nat) + (Int.toNat x.fst.Ring))).x.s.x.l.nil (x.snd.snd.rings.get ((0 : Nat) + (Int.toNat x.fst.Ring))).x.s.x.l.n (fun i3 => (V.cons (V.int IntKind.u64 ((x.snd.snd.rings.get ((0 : Nat) + (Int.toNat x.fst.Ring))).x.s.x.l.get i3).AQ) (V.cons (V.int IntKind.u64 ((x.snd.snd.rings.get ((0 : Nat) + (Int.toNat x.fst.Ring))).x.s.x.l.get i3).Value) (V.cons (V.int IntKind.i64 ((x.snd.snd.rings.get ((0 : Nat) + (Int.toNat x.fst.Ring))).x.s.x.l.get i3).Left) V.unit))))) (V.cons (V.int IntKind.i64 (x.snd.snd.rings.get ((0 : Nat) + (Int.toNat x.fst.Ring))).x.s.x.AO) V.unit))) (V.cons (V.int IntKind.u64 (x.snd.snd.rings.get ((0 : Nat) + (Int.toNat x.fst.Ring))).x.most) (V.cons (V.bool (x.snd.snd.rings.get ((0 : Nat) + (Int.toNat x.fst.Ring))).x.closed) V.unit))))) ∧ ((fun v : V => v = v) (V.Af (x.snd.snd.rings.get ((0 : Nat) + (Int.toNat x.fst.Ring))).nil (V.cons (V.cons (V.int IntKind.u64 (x.snd.snd.rings.get ((0 : Nat) + (Int.toNat x.fst.Ring))).x.AA.tail) (V.cons (V.A0 36 1 (x.snd.snd.rings.get ((0 : Nat) + (Int.toNat x.fst.Ring))).x.AA.AD.nil (x.snd.snd.rings.get ((0 : Nat) + (Int.toNat x.fst.Ring))).x.AA.AD.n (fun i3 => (V.int IntKind.u64 ((x.snd.snd.rings.get ((0 : Nat) + (Int.toNat x.fst.Ring))).x.AA.AD.get i3)))) V.unit)) (V.cons (V.Af (x.snd.snd.rings.get ((0 : Nat) + (Int.toNat x.fst.Ring))).x.s.nil (V.cons (V.A0 175 3 (x.snd.snd.rings.get ((0 : Nat) + (Int.toNat x.fst.Ring))).x.s.x.l.nil (x.snd.snd.rings.get ((0 : Nat) + (Int.toNat x.fst.Ring))).x.s.x.l.n (fun i3 => (V.cons (V.int IntKind.u64 ((x.snd.snd.rings.get ((0 : Nat) + (Int.toNat x.fst.Ring))).x.s.x.l.get i3).AQ) (V.cons (V.int IntKind.u64 ((x.snd.snd.rings.get ((0 : Nat) + (Int.toNat x.fst.Ring))).x.s.x.l.get i3).Value) (V.cons (V.int IntKind.i64 ((x.snd.snd.rings.get ((0 : Nat) + (Int.toNat x.fst.Ring))).x.s.x.l.get i3).Left) V.unit))))) (V.cons (V.int IntKind.i64 (x.snd.snd.rings.get ((0 : Nat) + (Int.toNat x.fst.Ring))).x.s.x.AO) V.unit))) (V.cons (V.int IntKind.u64 (x.snd.snd.rings.get ((0 : Nat) + (Int.toNat x.fst.Ring))).x.most) (V.cons (V.bool (x.snd.snd.rings.get ((0 : Nat) + (Int.toNat x.fst.Ring))).x.closed) V.unit)))))))) <|
 (.need ((true && true) && (Nat.beq x.snd.snd.rings.n x.snd.snd.rings.n)) <|
 (.ret ((Ae x.fst.AG y2), x.snd.snd))))))
 (.need ((true && true) && (((Nat.beq x.snd.snd.rings.n x.snd.snd.rings.n) && (Nat.blt ((0 : Nat) + (Int.toNat x.fst.Ring)) x.snd.snd.rings.n)) && (!(x.snd.snd.rings.get ((0 : Nat) + (Int.toNat x.fst.Ring))).nil))) <|
 (.side (((fun v : Nat → V => v = v) (fun i2 => (cond (Nat.beq i2 ((0 : Nat) + (Int.toNat x.fst.Ring))) (V.ptr (Id.loc 15 0) List.nil) (V.Af (x.snd.snd.rings.get i2).nil (V.cons (V.cons (V.int IntKind.u64 (x.snd.snd.rings.get i2).x.AA.tail) (V.cons (V.A0 36 1 (x.snd.snd.rings.get i2).x.AA.AD.nil (x.snd.snd.rings.get i2).x.AA.AD.n (fun i3 => (V.int IntKind.u64 ((x.snd.snd.rings.get i2).x.AA.AD.get i3)))) V.unit)) (V.cons (V.Af (x.snd.snd.rings.get i2).x.s.nil (V.cons (V.A0 175 3 (x.snd.snd.rings.get i2).x.s.x.l.nil (x.snd.snd.rings.get i2).x.s.x.l.n (fun i3 => (V.cons (V.int IntKind.u64 ((x.snd.snd.rings.get i2).x.s.x.l.get i3).AQ) (V.cons (V.int IntKind.u64 ((x.snd.snd.rings.get i2).x.s.x.l.get i3).Value) (V.cons (V.int IntKind.i64 ((x.snd.snd.rings.get i2).x.s.x.l.get i3).Left) V.unit))))) (V.cons (V.int IntKind.i64 (x.snd.snd.rings.get i2).x.s.x.AO) V.unit))) (V.cons (V.int IntKind.u64 (x.snd.snd.rings.get i2).x.most) (V.cons (V.bool (x.snd.snd.rings.get i2).x.closed) V.unit)))))))) ∧ (((fun v : V => v = v) (V.cons (V.cons (V.int IntKind.u64 (x.snd.snd.rings.get ((0 : Nat) + (Int.toNat x.fst.Ring))).x.AA.tail) (V.cons (V.A0 36 1 (x.snd.snd.rings.get ((0 : Nat) + (Int.toNat x.fst.Ring))).x.AA.AD.nil (x.snd.snd.rings.get ((0 : Nat) + (Int.toNat x.fst.Ring))).x.AA.AD.n (fun i2 => (V.int IntKind.u64 ((x.snd.snd.rings.get ((0 : Nat) + (Int.toNat x.fst.Ring))).x.AA.AD.get i2)))) V.unit)) (V.cons (V.Af (x.snd.snd.rings.get ((0 : Nat) + (Int.toNat x.fst.Ring))).x.s.nil (V.cons (V.A0 175 3 (x.snd.snd.rings.get ((0 : Nat) + (Int.toNat x.fst.Ring))).x.s.x.l.nil (x.snd.snd.rings.get ((0 : Nat) + (Int.toNat x.fst.Ring))).x.s.x.l.n (fun i2 => (V.cons (V.int IntKind.u64 ((x.snd.snd.rings.get ((0 : Nat) + (Int.toNat x.fst.Ring))).x.s.x.l.get i2).AQ) (V.cons (V.int IntKind.u64 ((x.snd.snd.rings.get ((0 : Nat) + (Int.toNat x.fst.Ring))).x.s.x.l.get i2).Value) (V.cons (V.int IntKind.i64 ((x.snd.snd.rings.get ((0 : Nat) + (Int.toNat x.fst.Ring))).x.s.x.l.get i2).Left) V.unit))))) (V.cons (V.int IntKind.i64 (x.snd.snd.rings.get ((0 : Nat) + (Int.toNat x.fst.Ring))).x.s.x.AO) V.unit))) (V.cons (V.int IntKind.u64 (x.snd.snd.rings.get ((0 : Nat) + (Int.toNat x.fst.Ring))).x.most) (V.cons (V.bool (x.snd.snd.rings.get ((0 : Nat) + (Int.toNat x.fst.Ring))).x.closed) V.unit))))) ∧ ((fun v : V => v = v) (V.Af (x.snd.snd.rings.get ((0 : Nat) + (Int.toNat x.fst.Ring))).nil (V.cons (V.cons (V.int IntKind.u64 (x.snd.snd.rings.get ((0 : Nat) + (Int.toNat x.fst.Ring))).x.AA.tail) (V.cons (V.A0 36 1 (x.snd.snd.rings.get ((0 : Nat) + (Int.toNat x.fst.Ring))).x.AA.AD.nil (x.snd.snd.rings.get ((0 : Nat) + (Int.toNat x.fst.Ring))).x.AA.AD.n (fun i2 => (V.int IntKind.u64 ((x.snd.snd.rings.get ((0 : Nat) + (Int.toNat x.fst.Ring))).x.AA.AD.get i2)))) V.unit)) (V.cons (V.Af (x.snd.snd.rings.get ((0 : Nat) + (Int.toNat x.fst.Ring))).x.s.nil (V.cons (V.A0 175 3 (x.snd.snd.rings.get ((0 : Nat) + (Int.toNat x.fst.Ring))).x.s.x.l.nil (x.snd.snd.rings.get ((0 : Nat) + (Int.toNat x.fst.Ring))).x.s.x.l.n (fun i2 => (V.cons (V.int IntKind.u64 ((x.snd.snd.rings.get ((0 : Nat) + (Int.toNat x.fst.Ring))).x.s.x.l.get i2).AQ) (V.cons (V.int IntKind.u64 ((x.snd.snd.rings.get ((0 : Nat) + (Int.toNat x.fst.Ring))).x.s.x.l.get i2).Value) (V.cons (V.int IntKind.i64 ((x.snd.snd.rings.get ((0 : Nat) + (Int.toNat x.fst.Ring))).x.s.x.l.get i2).Left) V.unit))))) (V.cons (V.int IntKind.i64 (x.snd.snd.rings.get ((0 : Nat) + (Int.toNat x.fst.Ring))).x.s.x.AO) V.unit))) (V.cons (V.int IntKind.u64 (x.snd.snd.rings.get ((0 : Nat) + (Int.toNat x.fst.Ring))).x.most) (V.cons (V.bool (x.snd.snd.rings.get ((0 : Nat) + (Int.toNat x.fst.Ring))).x.closed) V.unit)))))))) <|
 (.need ((true && true) && (Nat.beq x.snd.snd.rings.n x.snd.snd.rings.n)) <|
 (.ret (false, x.snd.snd)))))))
 (.ite (Ae x.fst.Kind 2)
 (.call con_f1x (x.fst.AG, (x.snd.snd.rings.get ((0 : Nat) + (Int.toNat x.fst.Ring))).x) fun (y1 : R_f1x) =>
 (.need ((true && true) && (((Nat.beq x.snd.snd.rings.n x.snd.snd.rings.n) && (Nat.blt ((0 : Nat) + (Int.toNat x.fst.Ring)) x.snd.snd.rings.n)) && (!(x.snd.snd.rings.get ((0 : Nat) + (Int.toNat x.fst.Ring))).nil))) <|
 (.side (((fun v : Nat → V => v = v) (fun i2 => (cond (Nat.beq i2 ((0 : Nat) + (Int.toNat x.fst.Ring))) (V.ptr (Id.loc 15 0) List.nil) (V.Af (x.snd.snd.rings.get i2).nil (V.cons (V.cons (V.int IntKind.u64 (x.snd.snd.rings.get i2).x.AA.tail) (V.cons (V.A0 36 1 (x.snd.snd.rings.get i2).x.AA.AD.nil (x.snd.snd.rings.get i2).x.AA.AD.n (fun i3 => (V.int IntKind.u64 ((x.snd.snd.rings.get i2).x.AA.AD.get i3)))) V.unit)) (V.cons (V.Af (x.snd.snd.rings.get i2).x.s.nil (V.cons (V.A0 175 3 (x.snd.snd.rings.get i2).x.s.x.l.nil (x.snd.snd.rings.get i2).x.s.x.l.n (fun i3 => (V.cons (V.int IntKind.u64 ((x.snd.snd.rings.get i2).x.s.x.l.get i3).AQ) (V.cons (V.int IntKind.u64 ((x.snd.snd.rings.get i2).x.s.x.l.get i3).Value) (V.cons (V.int IntKind.i64 ((x.snd.snd.rings.get i2).x.s.x.l.get i3).Left) V.unit))))) (V.cons (V.int IntKind.i64 (x.snd.snd.rings.get i2).x.s.x.AO) V.unit))) (V.cons (V.int IntKind.u64 (x.snd.snd.rings.get i2).x.most) (V.cons (V.bool (x.snd.snd.rings.get i2).x.closed) V.unit)))))))) ∧ (((fun v : V => v = v) (V.cons (V.cons (V.int IntKind.u64 (x.snd.snd.rings.get ((0 : Nat) + (Int.toNat x.fst.Ring))).x.AA.tail) (V.cons (V.A0 36 1 (x.snd.snd.rings.get ((0 : Nat) + (Int.toNat x.fst.Ring))).x.AA.AD.nil (x.snd.snd.rings.get ((0 : Nat) + (Int.toNat x.fst.Ring))).x.AA.AD.n (fun i2 => (V.int IntKind.u64 ((x.snd.snd.rings.get ((0 : Nat) + (Int.toNat x.fst.Ring))).x.AA.AD.get i2)))) V.unit)) (V.cons (V.Af (x.snd.snd.rings.get ((0 : Nat) + (Int.toNat x.fst.Ring))).x.s.nil (V.cons (V.A0 175 3 (x.snd.snd.rings.get ((0 : Nat) + (Int.toNat x.fst.Ring))).x.s.x.l.nil (x.snd.snd.rings.get ((0 : Nat) + (Int.toNat x.fst.Ring))).x.s.x.l.n (fun i2 => (V.cons (V.int IntKind.u64 ((x.snd.snd.rings.get ((0 : Nat) + (Int.toNat x.fst.Ring))).x.s.x.l.get i2).AQ) (V.cons (V.int IntKind.u64 ((x.snd.snd.rings.get ((0 : Nat) + (Int.toNat x.fst.Ring))).x.s.x.l.get i2).Value) (V.cons (V.int IntKind.i64 ((x.snd.snd.rings.get ((0 : Nat) + (Int.toNat x.fst.Ring))).x.s.x.l.get i2).Left) V.unit))))) (V.cons (V.int IntKind.i64 (x.snd.snd.rings.get ((0 : Nat) + (Int.toNat x.fst.Ring))).x.s.x.AO) V.unit))) (V.cons (V.int IntKind.u64 (x.snd.snd.rings.get ((0 : Nat) + (Int.toNat x.fst.Ring))).x.most) (V.cons (V.bool (x.snd.snd.rings.get ((0 : Nat) + (Int.toNat x.fst.Ring))).x.closed) V.unit))))) ∧ ((fun v : V => v = v) (V.Af (x.snd.snd.rings.get ((0 : Nat) + (Int.toNat x.fst.Ring))).nil (V.cons (V.cons (V.int IntKind.u64 (x.snd.snd.rings.get ((0 : Nat) + (Int.toNat x.fst.Ring))).x.AA.tail) (V.cons (V.A0 36 1 (x.snd.snd.rings.get ((0 : Nat) + (Int.toNat x.fst.Ring))).x.AA.AD.nil (x.snd.snd.rings.get ((0 : Nat) + (Int.toNat x.fst.Ring))).x.AA.AD.n (fun i2 => (V.int IntKind.u64 ((x.snd.snd.rings.get ((0 : Nat) + (Int.toNat x.fst.Ring))).x.AA.AD.get i2)))) V.unit)) (V.cons (V.Af (x.snd.snd.rings.get ((0 : Nat) + (Int.toNat x.fst.Ring))).x.s.nil (V.cons (V.A0 175 3 (x.snd.snd.rings.get ((0 : Nat) + (Int.toNat x.fst.Ring))).x.s.x.l.nil (x.snd.snd.rings.get ((0 : Nat) + (Int.toNat x.fst.Ring))).x.s.x.l.n (fun i2 => (V.cons (V.int IntKind.u64 ((x.snd.snd.rings.get ((0 : Nat) + (Int.toNat x.fst.Ring))).x.s.x.l.get i2).AQ) (V.cons (V.int IntKind.u64 ((x.snd.snd.rings.get ((0 : Nat) + (Int.toNat x.fst.Ring))).x.s.x.l.get i2).Value) (V.cons (V.int IntKind.i64 ((x.snd.snd.rings.get ((0 : Nat) + (Int.toNat x.fst.Ring))).x.s.x.l.get i2).Left) V.unit))))) (V.cons (V.int IntKind.i64 (x.snd.snd.rings.get ((0 : Nat) + (Int.toNat x.fst.Ring))).x.s.x.AO) V.unit))) (V.cons (V.int IntKind.u64 (x.snd.snd.rings.get ((0 : Nat) + (Int.toNat x.fst.Ring))).x.most) (V.cons (V.bool (x.snd.snd.rings.get ((0 : Nat) + (Int.toNat x.fst.Ring))).x.closed) V.unit)))))))) <|
 (.need ((true && true) && (Nat.beq x.snd.snd.rings.n x.snd.snd.rings.n)) <|
 (.ret (y1, x.snd.snd))))))
 (.ite (Ae x.fst.Kind 3)
 (.call con_f13 (x.snd.fst.Reader, (x.snd.snd.rings.get ((0 : Nat) + (Int.toNat x.fst.Ring))).x) fun (y1 : R_f13) =>
 (.ite (!y1)
 (.call con_fm (x.snd.fst.Reader, (x.snd.snd.rings.get ((0 : Nat) + (Int.toNat x.fst.Ring))).x) fun (y2 : R_fm) =>
 (.need ((true && true) && (((Nat.beq x.snd.snd.rings.n x.snd.snd.rings.n) && (Nat.blt ((0 : Nat) + (Int.toNat x.fst.Ring)) x.snd.snd.rings.n)) && (!(x.snd.snd.rings.get ((0 : Nat) + (Int.toNat x.fst.Ring))).nil))) <|
 (.side (((fun v : Nat → V => v = v) (fun i3 => (cond (Nat.beq i3 ((0 : Nat) + (Int.toNat x.fst.Ring))) (V.ptr (Id.loc 15 0) List.nil) (V.Af (x.snd.snd.rings.get i3).nil (V.cons (V.cons (V.int IntKind.u64 (x.snd.snd.rings.get i3).x.AA.tail) (V.cons (V.A0 36 1 (x.snd.snd.rings.get i3).x.AA.AD.nil (x.snd.snd.rings.get i3).x.AA.AD.n (fun i4 => (V.int IntKind.u64 ((x.snd.snd.rings.get i3).x.AA.AD.get i4)))) V.unit)) (V.cons (V.Af (x.snd.snd.rings.get i3).x.s.nil (V.cons (V.A0 175 3 (x.snd.snd.rings.get i3).x.s.x.l.nil (x.snd.snd.rings.get i3).x.s.x.l.n (fun i4 => (V.cons (V.int IntKind.u64 ((x.snd.snd.rings.get i3).x.s.x.l.get i4).AQ) (V.cons (V.int IntKind.u64 ((x.snd.snd.rings.get i3).x.s.x.l.get i4).Value) (V.cons (V.int IntKind.i64 ((x.snd.snd.rings.get i3).x.s.x.l.get i4).Left) V.unit))))) (V.cons (V.int IntKind.i64 (x.snd.snd.rings.get i3).x.s.x.AO) V.unit))) (V.cons (V.int IntKind.u64 (x.snd.snd.rings.get i3).x.most) (V.cons (V.bool (x.snd.snd.rings.get i3).x.closed) V.unit)))))))) ∧ (((fun v : V => v = v) (V.cons (V.cons (V.int IntKind.u64 (x.snd.snd.rings.get ((0 : Nat) + (Int.toNat x.fst.Ring))).x.AA.tail) (V.cons (V.A0 36 1 (x.snd.snd.rings.get ((0 : Nat) + (Int.toNat x.fst.Ring))).x.AA.AD.nil (x.snd.snd.rings.get ((0 : Nat) + (Int.toNat x.fst.Ring))).x.AA.AD.n (fun i3 => (V.int IntKind.u64 ((x.snd.snd.rings.get ((0 : Nat) + (Int.toNat x.fst.Ring))).x.AA.AD.get i3)))) V.unit)) (V.cons (V.Af (x.snd.snd.rings.get ((0 : Nat) + (Int.toNat x.fst.Ring))).x.s.nil (V.cons (V.A0 175 3 (x.snd.snd.rings.get ((0 : Nat) + (Int.toNat x.fst.Ring))).x.s.x.l.nil (x.snd.snd.rings.get ((0 : Nat) + (Int.toNat x.fst.Ring))).x.s.x.l.n (fun i3 => (V.cons (V.int IntKind.u64 ((x.snd.snd.rings.get ((0 : Nat) + (Int.toNat x.fst.Ring))).x.s.x.l.get i3).AQ) (V.cons (V.int IntKind.u64 ((x.snd.snd.rings.get ((0 : Nat) + (Int.toNat x.fst.Ring))).x.s.x.l.get i3).Value) (V.cons (V.int IntKind.i64 ((x.snd.snd.rings.get ((0 : Nat) + (Int.toNat x.fst.Ring))).x.s.x.l.get i3).Left) V.unit))))) (V.cons (V.int IntKind.i64 (x.snd.snd.rings.get ((0 : Nat) + (Int.toNat x.fst.Ring))).x.s.x.AO) V.unit))) (V.cons (V.int IntKind.u64 (x.snd.snd.rings.get ((0 : Nat) + (Int.toNat x.fst.Ring))).x.most) (V.cons (V.bool (x.snd.snd.rings.get ((0 : Nat) + (Int.toNat x.fst.Ring))).x.closed) V.unit))))) ∧ ((fun v : V => v = v) (V.Af (x.snd.snd.rings.get ((0 : Nat) + (Int.toNat x.fst.Ring))).nil (V.cons (V.cons (V.int IntKind.u64 (x.snd.snd.rings.get ((0 : Nat) + (Int.toNat x.fst.Ring))).x.AA.tail) (V.cons (V.A0 36 1 (x.snd.snd.rings.get ((0 : Nat) + (Int.toNat x.fst.Ring))).x.AA.AD.nil (x.snd.snd.rings.get ((0 : Nat) + (Int.toNat x.fst.Ring))).x.AA.AD.n (fun i3 => (V.int IntKind.u64 ((x.snd.snd.rings.get ((0 : Nat) + (Int.toNat x.fst.Ring))).x.AA.AD.get i3)))) V.unit)) (V.cons (V.Af (x.snd.snd.rings.get ((0 : Nat) + (Int.toNat x.fst.Ring))).x.s.nil (V.cons (V.A0 175 3 (x.snd.snd.rings.get ((0 : Nat) + (Int.toNat x.fst.Ring))).x.s.x.l.nil (x.snd.snd.rings.get ((0 : Nat) + (Int.toNat x.fst.Ring))).x.s.x.l.n (fun i3 => (V.cons (V.int IntKind.u64 ((x.snd.snd.rings.get ((0 : Nat) + (Int.toNat x.fst.Ring))).x.s.x.l.get i3).AQ) (V.cons (V.int IntKind.u64 ((x.snd.snd.rings.get ((0 : Nat) + (Int.toNat x.fst.Ring))).x.s.x.l.get i3).Value) (V.cons (V.int IntKind.i64 ((x.snd.snd.rings.get ((0 : Nat) + (Int.toNat x.fst.Ring))).x.s.x.l.get i3).Left) V.unit))))) (V.cons (V.int IntKind.i64 (x.snd.snd.rings.get ((0 : Nat) + (Int.toNat x.fst.Ring))).x.s.x.AO) V.unit))) (V.cons (V.int IntKind.u64 (x.snd.snd.rings.get ((0 : Nat) + (Int.toNat x.fst.Ring))).x.most) (V.cons (V.bool (x.snd.snd.rings.get ((0 : Nat) + (Int.toNat x.fst.Ring))).x.closed) V.unit)))))))) <|
 (.need ((true && true) && (Nat.beq x.snd.snd.rings.n x.snd.snd.rings.n)) <|
 (.ret ((Ae x.fst.AG y2), x.snd.snd))))))
 (.need ((true && true) && (((Nat.beq x.snd.snd.rings.n x.snd.snd.rings.n) && (Nat.blt ((0 : Nat) + (Int.toNat x.fst.Ring)) x.snd.snd.rings.n)) && (!(x.snd.snd.rings.get ((0 : Nat) + (Int.toNat x.fst.Ring))).nil))) <|
 (.side (((fun v : Nat → V => v = v) (fun i2 => (cond (Nat.beq i2 ((0 : Nat) + (Int.toNat x.fst.Ring))) (V.ptr (Id.loc 15 0) List.nil) (V.Af (x.snd.snd.rings.get i2).nil (V.cons (V.cons (V.int IntKind.u64 (x.snd.snd.rings.get i2).x.AA.tail) (V.cons (V.A0 36 1 (x.snd.snd.rings.get i2).x.AA.AD.nil (x.snd.snd.rings.get i2).x.AA.AD.n (fun i3 => (V.int IntKind.u64 ((x.snd.snd.rings.get i2).x.AA.AD.get i3)))) V.unit)) (V.cons (V.Af (x.snd.snd.rings.get i2).x.s.nil (V.cons (V.A0 175 3 (x.snd.snd.rings.get i2).x.s.x.l.nil (x.snd.snd.rings.get i2).x.s.x.l.n (fun i3 => (V.cons (V.int IntKind.u64 ((x.snd.snd.rings.get i2).x.s.x.l.get i3).AQ) (V.cons (V.int IntKind.u64 ((x.snd.snd.rings.get i2).x.s.x.l.get i3).Value) (V.cons (V.int IntKind.i64 ((x.snd.snd.rings.get i2).x.s.x.l.get i3).Left) V.unit))))) (V.cons (V.int IntKind.i64 (x.snd.snd.rings.get i2).x.s.x.AO) V.unit))) (V.cons (V.int IntKind.u64 (x.snd.snd.rings.get i2).x.most) (V.cons (V.bool (x.snd.snd.rings.get i2).x.closed) V.unit)))))))) ∧ (((fun v : V => v = v) (V.cons (V.cons (V.int IntKind.u64 (x.snd.snd.rings.get ((0 : Nat) + (Int.toNat x.fst.Ring))).x.AA.tail) (V.cons (V.A0 36 1 (x.snd.snd.rings.get ((0 : Nat) + (Int.toNat x.fst.Ring))).x.AA.AD.nil (x.snd.snd.rings.get ((0 : Nat) + (Int.toNat x.fst.Ring))).x.AA.AD.n (fun i2 => (V.int IntKind.u64 ((x.snd.snd.rings.get ((0 : Nat) + (Int.toNat x.fst.Ring))).x.AA.AD.get i2)))) V.unit)) (V.cons (V.Af (x.snd.snd.rings.get ((0 : Nat) + (Int.toNat x.fst.Ring))).x.s.nil (V.cons (V.A0 175 3 (x.snd.snd.rings.get ((0 : Nat) + (Int.toNat x.fst.Ring))).x.s.x.l.nil (x.snd.snd.rings.get ((0 : Nat) + (Int.toNat x.fst.Ring))).x.s.x.l.n (fun i2 => (V.cons (V.int IntKind.u64 ((x.snd.snd.rings.get ((0 : Nat) + (Int.toNat x.fst.Ring))).x.s.x.l.get i2).AQ) (V.cons (V.int IntKind.u64 ((x.snd.snd.rings.get ((0 : Nat) + (Int.toNat x.fst.Ring))).x.s.x.l.get i2).Value) (V.cons (V.int IntKind.i64 ((x.snd.snd.rings.get ((0 : Nat) + (Int.toNat x.fst.Ring))).x.s.x.l.get i2).Left) V.unit))))) (V.cons (V.int IntKind.i64 (x.snd.snd.rings.get ((0 : Nat) + (Int.toNat x.fst.Ring))).x.s.x.AO) V.unit))) (V.cons (V.int IntKind.u64 (x.snd.snd.rings.get ((0 : Nat) + (Int.toNat x.fst.Ring))).x.most) (V.cons (V.bool (x.snd.snd.rings.get ((0 : Nat) + (Int.toNat x.fst.Ring))).x.closed) V.unit))))) ∧ ((fun v : V => v = v) (V.Af (x.snd.snd.rings.get ((0 : Nat) + (Int.toNat x.fst.Ring))).nil (V.cons (V.cons (V.int IntKind.u64 (x.snd.snd.rings.get ((0 : Nat) + (Int.toNat x.fst.Ring))).x.AA.tail) (V.cons (V.A0 36 1 (x.snd.snd.rings.get ((0 : Nat) + (Int.toNat x.fst.Ring))).x.AA.AD.nil (x.snd.snd.rings.get ((0 : Nat) + (Int.toNat x.fst.Ring))).x.AA.AD.n (fun i2 => (V.int IntKind.u64 ((x.snd.snd.rings.get ((0 : Nat) + (Int.toNat x.fst.Ring))).x.AA.AD.get i2)))) V.unit)) (V.cons (V.Af (x.snd.snd.rings.get ((0 : Nat) + (Int.toNat x.fst.Ring))).x.s.nil (V.cons (V.A0 175 3 (x.snd.snd.rings.get ((0 : Nat) + (Int.toNat x.fst.Ring))).x.s.x.l.nil (x.snd.snd.rings.get ((0 : Nat) + (Int.toNat x.fst.Ring))).x.s.x.l.n (fun i2 => (V.cons (V.int IntKind.u64 ((x.snd.snd.rings.get ((0 : Nat) + (Int.toNat x.fst.Ring))).x.s.x.l.get i2).AQ) (V.cons (V.int IntKind.u64 ((x.snd.snd.rings.get ((0 : Nat) + (Int.toNat x.fst.Ring))).x.s.x.l.get i2).Value) (V.cons (V.int IntKind.i64 ((x.snd.snd.rings.get ((0 : Nat) + (Int.toNat x.fst.Ring))).x.s.x.l.get i2).Left) V.unit))))) (V.cons (V.int IntKind.i64 (x.snd.snd.rings.get ((0 : Nat) + (Int.toNat x.fst.Ring))).x.s.x.AO) V.unit))) (V.cons (V.int IntKind.u64 (x.snd.snd.rings.get ((0 : Nat) + (Int.toNat x.fst.Ring))).x.most) (V.cons (V.bool (x.snd.snd.rings.get ((0 : Nat) + (Int.toNat x.fst.Ring))).x.closed) V.unit)))))))) <|
 (.need ((true && true) && (Nat.beq x.snd.snd.rings.n x.snd.snd.rings.n)) <|
 (.ret (false, x.snd.snd)))))))
 (.ite (Ae x.fst.Kind 4)
 (.call con_f24 (x.snd.fst.Reader, (x.fst.AG, (x.snd.snd.rings.get ((0 : Nat) + (Int.toNat x.fst.Ring))).x)) fun (y1 : R_f24) =>
 (.need ((true && true) && (((Nat.beq x.snd.snd.rings.n x.snd.snd.rings.n) && (Nat.blt ((0 : Nat) + (Int.toNat x.fst.Ring)) x.snd.snd.rings.n)) && (!(x.snd.snd.rings.get ((0 : Nat) + (Int.toNat x.fst.Ring))).nil))) <|
 (.side (((fun v : Nat → V => v = v) (fun i2 => (cond (Nat.beq i2 ((0 : Nat) + (Int.toNat x.fst.Ring))) (V.ptr (Id.loc 15 0) List.nil) (V.Af (x.snd.snd.rings.get i2).nil (V.cons (V.cons (V.int IntKind.u64 (x.snd.snd.rings.get i2).x.AA.tail) (V.cons (V.A0 36 1 (x.snd.snd.rings.get i2).x.AA.AD.nil (x.snd.snd.rings.get i2).x.AA.AD.n (fun i3 => (V.int IntKind.u64 ((x.snd.snd.rings.get i2).x.AA.AD.get i3)))) V.unit)) (V.cons (V.Af (x.snd.snd.rings.get i2).x.s.nil (V.cons (V.A0 175 3 (x.snd.snd.rings.get i2).x.s.x.l.nil (x.snd.snd.rings.get i2).x.s.x.l.n (fun i3 => (V.cons (V.int IntKind.u64 ((x.snd.snd.rings.get i2).x.s.x.l.get i3).AQ) (V.cons (V.int IntKind.u64 ((x.snd.snd.rings.get i2).x.s.x.l.get i3).Value) (V.cons (V.int IntKind.i64 ((x.snd.snd.rings.get i2).x.s.x.l.get i3).Left) V.unit))))) (V.cons (V.int IntKind.i64 (x.snd.snd.rings.get i2).x.s.x.AO) V.unit))) (V.cons (V.int IntKind.u64 (x.snd.snd.rings.get i2).x.most) (V.cons (V.bool (x.snd.snd.rings.get i2).x.closed) V.unit)))))))) ∧ (((fun v : V => v = v) (V.cons (V.cons (V.int IntKind.u64 (x.snd.snd.rings.get ((0 : Nat) + (Int.toNat x.fst.Ring))).x.AA.tail) (V.cons (V.A0 36 1 (x.snd.snd.rings.get ((0 : Nat) + (Int.toNat x.fst.Ring))).x.AA.AD.nil (x.snd.snd.rings.get ((0 : Nat) + (Int.toNat x.fst.Ring))).x.AA.AD.n (fun i2 => (V.int IntKind.u64 ((x.snd.snd.rings.get ((0 : Nat) + (Int.toNat x.fst.Ring))).x.AA.AD.get i2)))) V.unit)) (V.cons (V.Af (x.snd.snd.rings.get ((0 : Nat) + (Int.toNat x.fst.Ring))).x.s.nil (V.cons (V.A0 175 3 (x.snd.snd.rings.get ((0 : Nat) + (Int.toNat x.fst.Ring))).x.s.x.l.nil (x.snd.snd.rings.get ((0 : Nat) + (Int.toNat x.fst.Ring))).x.s.x.l.n (fun i2 => (V.cons (V.int IntKind.u64 ((x.snd.snd.rings.get ((0 : Nat) + (Int.toNat x.fst.Ring))).x.s.x.l.get i2).AQ) (V.cons (V.int IntKind.u64 ((x.snd.snd.rings.get ((0 : Nat) + (Int.toNat x.fst.Ring))).x.s.x.l.get i2).Value) (V.cons (V.int IntKind.i64 ((x.snd.snd.rings.get ((0 : Nat) + (Int.toNat x.fst.Ring))).x.s.x.l.get i2).Left) V.unit))))) (V.cons (V.int IntKind.i64 (x.snd.snd.rings.get ((0 : Nat) + (Int.toNat x.fst.Ring))).x.s.x.AO) V.unit))) (V.cons (V.int IntKind.u64 (x.snd.snd.rings.get ((0 : Nat) + (Int.toNat x.fst.Ring))).x.most) (V.cons (V.bool (x.snd.snd.rings.get ((0 : Nat) + (Int.toNat x.fst.Ring))).x.closed) V.unit))))) ∧ ((fun v : V => v = v) (V.Af (x.snd.snd.rings.get ((0 : Nat) + (Int.toNat x.fst.Ring))).nil (V.cons (V.cons (V.int IntKind.u64 (x.snd.snd.rings.get ((0 : Nat) + (Int.toNat x.fst.Ring))).x.AA.tail) (V.cons (V.A0 36 1 (x.snd.snd.rings.get ((0 : Nat) + (Int.toNat x.fst.Ring))).x.AA.AD.nil (x.snd.snd.rings.get ((0 : Nat) + (Int.toNat x.fst.Ring))).x.AA.AD.n (fun i2 => (V.int IntKind.u64 ((x.snd.snd.rings.get ((0 : Nat) + (Int.toNat x.fst.Ring))).x.AA.AD.get i2)))) V.unit)) (V.cons (V.Af (x.snd.snd.rings.get ((0 : Nat) + (Int.toNat x.fst.Ring))).x.s.nil (V.cons (V.A0 175 3 (x.snd.snd.rings.get ((0 : Nat) + (Int.toNat x.fst.Ring))).x.s.x.l.nil (x.snd.snd.rings.get ((0 : Nat) + (Int.toNat x.fst.Ring))).x.s.x.l.n (fun i2 => (V.cons (V.int IntKind.u64 ((x.snd.snd.rings.get ((0 : Nat) + (Int.toNat x.fst.Ring))).x.s.x.l.get i2).AQ) (V.cons (V.int IntKind.u64 ((x.snd.snd.rings.get ((0 : Nat) + (Int.toNat x.fst.Ring))).x.s.x.l.get i2).Value) (V.cons (V.int IntKind.i64 ((x.snd.snd.rings.get ((0 : Nat) + (Int.toNat x.fst.Ring))).x.s.x.l.get i2).Left) V.unit))))) (V.cons (V.int IntKind.i64 (x.snd.snd.rings.get ((0 : Nat) + (Int.toNat x.fst.Ring))).x.s.x.AO) V.unit))) (V.cons (V.int IntKind.u64 (x.snd.snd.rings.get ((0 : Nat) + (Int.toNat x.fst.Ring))).x.most) (V.cons (V.bool (x.snd.snd.rings.get ((0 : Nat) + (Int.toNat x.fst.Ring))).x.closed) V.unit)))))))) <|
 (.need ((true && true) && (Nat.beq x.snd.snd.rings.n x.snd.snd.rings.n)) <|
 (.ret (y1, x.snd.snd))))))
 (.call con_f1h (x.snd.snd.rings.get ((0 : Nat) + (Int.toNat x.fst.Ring))).x fun (y1 : R_f1h) =>
 (.need ((true && true) && (((Nat.beq x.snd.snd.rings.n x.snd.snd.rings.n) && (Nat.blt ((0 : Nat) + (Int.toNat x.fst.Ring)) x.snd.snd.rings.n)) && (!(x.snd.snd.rings.get ((0 : Nat) + (Int.toNat x.fst.Ring))).nil))) <|
 (.side (((fun v : Nat → V => v = v) (fun i2 => (cond (Nat.beq i2 ((0 : Nat) + (Int.toNat x.fst.Ring))) (V.ptr (Id.loc 15 0) List.nil) (V.Af (x.snd.snd.rings.get i2).nil (V.cons (V.cons (V.int IntKind.u64 (x.snd.snd.rings.get i2).x.AA.tail) (V.cons (V.A0 36 1 (x.snd.snd.rings.get i2).x.AA.AD.nil (x.snd.snd.rings.get i2).x.AA.AD.n (fun i3 => (V.int IntKind.u64 ((x.snd.snd.rings.get i2).x.AA.AD.get i3)))) V.unit)) (V.cons (V.Af (x.snd.snd.rings.get i2).x.s.nil (V.cons (V.A0 175 3 (x.snd.snd.rings.get i2).x.s.x.l.nil (x.snd.snd.rings.get i2).x.s.x.l.n (fun i3 => (V.cons (V.int IntKind.u64 ((x.snd.snd.rings.get i2).x.s.x.l.get i3).AQ) (V.cons (V.int IntKind.u64 ((x.snd.snd.rings.get i2).x.s.x.l.get i3).Value) (V.cons (V.int IntKind.i64 ((x.snd.snd.rings.get i2).x.s.x.l.get i3).Left) V.unit))))) (V.cons (V.int IntKind.i64 (x.snd.snd.rings.get i2).x.s.x.AO) V.unit))) (V.cons (V.int IntKind.u64 (x.snd.snd.rings.get i2).x.most) (V.cons (V.bool (x.snd.snd.rings.get i2).x.closed) V.unit)))))))) ∧ (((fun v : V => v = v) (V.cons (V.cons (V.int IntKind.u64 (x.snd.snd.rings.get ((0 : Nat) + (Int.toNat x.fst.Ring))).x.AA.tail) (V.cons (V.A0 36 1 (x.snd.snd.rings.get ((0 : Nat) + (Int.toNat x.fst.Ring))).x.AA.AD.nil (x.snd.snd.rings.get ((0 : Nat) + (Int.toNat x.fst.Ring))).x.AA.AD.n (fun i2 => (V.int IntKind.u64 ((x.snd.snd.rings.get ((0 : Nat) + (Int.toNat x.fst.Ring))).x.AA.AD.get i2)))) V.unit)) (V.cons (V.Af (x.snd.snd.rings.get ((0 : Nat) + (Int.toNat x.fst.Ring))).x.s.nil (V.cons (V.A0 175 3 (x.snd.snd.rings.get ((0 : Nat) + (Int.toNat x.fst.Ring))).x.s.x.l.nil (x.snd.snd.rings.get ((0 : Nat) + (Int.toNat x.fst.Ring))).x.s.x.l.n (fun i2 => (V.cons (V.int IntKind.u64 ((x.snd.snd.rings.get ((0 : Nat) + (Int.toNat x.fst.Ring))).x.s.x.l.get i2).AQ) (V.cons (V.int IntKind.u64 ((x.snd.snd.rings.get ((0 : Nat) + (Int.toNat x.fst.Ring))).x.s.x.l.get i2).Value) (V.cons (V.int IntKind.i64 ((x.snd.snd.rings.get ((0 : Nat) + (Int.toNat x.fst.Ring))).x.s.x.l.get i2).Left) V.unit))))) (V.cons (V.int IntKind.i64 (x.snd.snd.rings.get ((0 : Nat) + (Int.toNat x.fst.Ring))).x.s.x.AO) V.unit))) (V.cons (V.int IntKind.u64 (x.snd.snd.rings.get ((0 : Nat) + (Int.toNat x.fst.Ring))).x.most) (V.cons (V.bool (x.snd.snd.rings.get ((0 : Nat) + (Int.toNat x.fst.Ring))).x.closed) V.unit))))) ∧ ((fun v : V => v = v) (V.Af (x.snd.snd.rings.get ((0 : Nat) + (Int.toNat x.fst.Ring))).nil (V.cons (V.cons (V.int IntKind.u64 (x.snd.snd.rings.get ((0 : Nat) + (Int.toNat x.fst.Ring))).x.AA.tail) (V.cons (V.A0 36 1 (x.snd.snd.rings.get ((0 : Nat) + (Int.toNat x.fst.Ring))).x.AA.AD.nil (x.snd.snd.rings.get ((0 : Nat) + (Int.toNat x.fst.Ring))).x.AA.AD.n (fun i2 => (V.int IntKind.u64 ((x.snd.snd.rings.get ((0 : Nat) + (Int.toNat x.fst.Ring))).x.AA.AD.get i2)))) V.unit)) (V.cons (V.Af (x.snd.snd.rings.get ((0 : Nat) + (Int.toNat x.fst.Ring))).x.s.nil (V.cons (V.A0 175 3 (x.snd.snd.rings.get ((0 : Nat) + (Int.toNat x.fst.Ring))).x.s.x.l.nil (x.snd.snd.rings.get ((0 : Nat) + (Int.toNat x.fst.Ring))).x.s.x.l.n (fun i2 => (V.cons (V.int IntKind.u64 ((x.snd.snd.rings.get ((0 : Nat) + (Int.toNat x.fst.Ring))).x.s.x.l.get i2).AQ) (V.cons (V.int IntKind.u64 ((x.snd.snd.rings.get ((0 : Nat) + (Int.toNat x.fst.Ring))).x.s.x.l.get i2).Value) (V.cons (V.int IntKind.i64 ((x.snd.snd.rings.get ((0 : Nat) + (Int.toNat x.fst.Ring))).x.s.x.l.get i2).Left) V.unit))))) (V.cons (V.int IntKind.i64 (x.snd.snd.rings.get ((0 : Nat) + (Int.toNat x.fst.Ring))).x.s.x.AO) V.unit))) (V.cons (V.int IntKind.u64 (x.snd.snd.rings.get ((0 : Nat) + (Int.toNat x.fst.Ring))).x.most) (V.cons (V.bool (x.snd.snd.rings.get ((0 : Nat) + (Int.toNat x.fst.Ring))).x.closed) V.unit)))))))) <|
 (.need ((true && true) && (Nat.beq x.snd.snd.rings.n x.snd.snd.rings.n)) <|
 (.ret ((Ae x.fst.AG y1), x.snd.snd))))))))))))
theorem sd_f18 (x : X_f18) : (tt_f18 x).AJ :=
 (TT.sN (TT.sN (TT.sI (TT.sC fun _ => (TT.sI (TT.sC fun _ => (TT.sN (TT.sS ⟨rfl, ⟨rfl, rfl⟩⟩ (TT.sN TT.sR)))) (TT.sN (TT.sS ⟨rfl, ⟨rfl, rfl⟩⟩ (TT.sN TT.sR))))) (TT.sI (TT.sC fun _ => (TT.sN (TT.sS ⟨rfl, ⟨rfl, rfl⟩⟩ (TT.sN TT.sR)))) (TT.sI (TT.sC fun _ => (TT.sI (TT.sC fun _ => (TT.sN (TT.sS ⟨rfl, ⟨rfl, rfl⟩⟩ (TT.sN TT.sR)))) (TT.sN (TT.sS ⟨rfl, ⟨rfl, rfl⟩⟩ (TT.sN TT.sR))))) (TT.sI (TT.sC fun _ => (TT.sN (TT.sS ⟨rfl, ⟨rfl, rfl⟩⟩ (TT.sN TT.sR)))) (TT.sC fun _ => (TT.sN (TT.sS ⟨rfl, ⟨rfl, rfl⟩⟩ (TT.sN TT.sR))))))))))
theorem roT_f18 (x : X_f18) : TT.Ro p_f18 (w_f18 x) (tt_f18 x) :=
 (TT.rN (TT.rN (TT.rI (TT.rC fun _ => (TT.rI (TT.rC fun _ => (TT.rN (TT.rS (TT.rN (TT.rR rfl))))) (TT.rN (TT.rS (TT.rN (TT.rR rfl)))))) (TT.rI (TT.rC fun _ => (TT.rN (TT.rS (TT.rN (TT.rR rfl))))) (TT.rI (TT.rC fun _ => (TT.rI (TT.rC fun _ => (TT.rN (TT.rS (TT.rN (TT.rR rfl))))) (TT.rN (TT.rS (TT.rN (TT.rR rfl)))))) (TT.rI (TT.rC fun _ => (TT.rN (TT.rS (TT.rN (TT.rR rfl))))) (TT.rC fun _ => (TT.rN (TT.rS (TT.rN (TT.rR rfl)))))))))))
def D_f18 : AS X_f18 R_f18 := .ro (.of tt_f18) (fun y => (y.1)) (fun y x => (y, x.2.2)) fun x y h => congrArg (fun o => (y.1, o)) (roT_f18 x y h)
def con_f18 : BN Tryz.prog :=
 DC 116 J_f18 S_f18 (.of tt_f18) D_f18 (fun y x => (y, x.2.2)) (fun y => V.bool y) 3 1 [.any, .any, .any] (lk mxk lbn sd_f18) (fun x => ⟨(nu_e_TFa : ∀ y, (e_TFa y).Cd) (x.2.2), trivial⟩)
abbrev X_f2e : Type := TEv
abbrev R_f2e : Type := Bool
def J_f2e : BT Tryz.prog :=
 Bg Tryz.prog Tryz.f117 11 [(1, 3)] [] [] [] [.any] [] [] R_f2e [] fun y => [V.bool y]
def S_f2e : AR :=
 Aq Tryz.f117 1 0 X_f2e (fun x => [e_TEv x]) fun l => (d_TEv (at_ l 0))
def tt_f2e (x : X_f2e) : TT Tryz.prog R_f2e :=
 (.ite (B6 x.Kind 4)
 (.ret true)
 (.ret (Ae x.Kind 13)))
theorem sd_f2e (x : X_f2e) : (tt_f2e x).AJ :=
 (TT.sI TT.sR TT.sR)
def D_f2e : AS X_f2e R_f2e := .of tt_f2e
def con_f2e : BN Tryz.prog :=
 CY 117 J_f2e S_f2e D_f2e 1 0 [.any] (lk mxk lbn sd_f2e)
abbrev X_fb : Type := TEv × TFa
abbrev R_fb : Type := Bool
abbrev RR_fb : Type := Bool × TFa
abbrev p_fb (y : RR_fb) : TFa := y.2
abbrev w_fb (x : X_fb) : TFa := x.2
def J_fb : BT Tryz.prog :=
 Bg Tryz.prog Tryz.f63 103 [(3, 3)] [(8, [.back (.loc 30 0), .back (.loc 26 0)]), (9, [.back (.loc 30 0), .back (.loc 26 0)]), (10, [.back (.loc 47 0), .back (.loc 43 0), .back (.loc 30 0), .back (.loc 26 0)]), (11, [.back (.loc 47 0), .back (.loc 43 0), .back (.loc 30 0), .back (.loc 26 0)]), (12, [.back (.loc 47 0), .back (.loc 43 0), .back (.loc 30 0), .back (.loc 26 0)]), (13, [.back (.loc 47 0), .back (.loc 43 0), .back (.loc 30 0), .back (.loc 26 0)]), (14, [.back (.loc 47 0), .back (.loc 43 0), .back (.loc 30 0), .back (.loc 26 0)]), (15, [.back (.loc 47 0), .back (.loc 43 0), .back (.loc 30 0), .back (.loc 26 0)]), (16, [.back (.loc 90 0), .back (.loc 86 0), .back (.loc 47 0), .back (.loc 43 0), .back (.loc 30 0), .back (.loc 26 0)])] [] [.back (.loc 90 0), .back (.loc 86 0), .back (.loc 47 0), .back (.loc 43 0), .back (.loc 30 0), .back (.loc 26 0)] [.any] [sh_TFa] [con_f15, con_f11, con_f18, con_f10, con_f2e, con_fz] RR_fb [] fun y => [V.bool y.1, e_TFa y.2]
def S_fb : AR :=
 Aq Tryz.f63 2 1 X_fb (fun x => [(V.ptr (.par 0) []), e_TEv x.1, e_TFa x.2]) fun l => (d_TEv (at_ l 1), d_TFa (at_ l 2))
structure X_fb_16 where
 F6 : TEv
 Ad : TFa
 FO : TAk
def S_fb_16 : AR :=
 Ai Tryz.f63 16 (an [0, 3, 5]) [sh_TFa] [(.loc 5 0, .any)] X_fb_16 (fun x => [(V.ptr (.par 0) []), (DO e_TEv) x.F6, (V.ptr (.loc 5 0) []), e_TFa x.Ad, e_TAk x.FO]) fun l => ⟨(DP d_TEv) (at_ l 1), d_TFa (at_ l 3), d_TAk (at_ l 4)⟩
abbrev w_fb_16 (x : X_fb_16) : TFa := (x.Ad)
def tt_fb_16 (x : X_fb_16) : TT Tryz.prog RR_fb :=
 (.call con_f2e x.F6 fun (y1 : R_f2e) =>
 (.ite (!y1)
 (.ret (true, x.Ad))
 (.call con_f18 (x.F6, (x.FO, x.Ad)) fun (y2 : R_f18) =>
 (.ret (y2, x.Ad)))))
theorem sd_fb_16 (x : X_fb_16) : (tt_fb_16 x).AJ :=
 (TT.sC fun _ => (TT.sI TT.sR (TT.sC fun _ => TT.sR)))
theorem roT_fb_16 (x : X_fb_16) : TT.Ro p_fb (w_fb_16 x) (tt_fb_16 x) :=
 (TT.rC fun _ => (TT.rI (TT.rR rfl) (TT.rC fun _ => (TT.rR rfl))))
def D_fb_16 : AS X_fb_16 RR_fb := .of tt_fb_16
theorem ok_fb_16 : AX J_fb S_fb_16 D_fb_16 :=
 lk mxk lbn sd_fb_16
theorem ro_fb_16 : ∀ x y, D_fb_16.rel x y → p_fb y = w_fb_16 x :=
 roT_fb_16 
def tt_fb (x : X_fb) : TT Tryz.prog RR_fb :=
 (.call con_f10 (x.fst, x.snd) fun (y1 : R_f10) =>
 (.ite (!(Ae y1 0))
 (.ret (false, x.snd))
 (.call con_f15 (x.fst.Thread, x.snd) fun (y2 : R_f15) =>
 (.ite (Ae x.fst.Kind 5)
 (.call con_f11 (y2, x.snd) fun (y3 : R_f11) =>
 (.ite y3
 (.need (BQ x.fst.Ring x.snd.rings.n) <|
 (.need (((Nat.beq x.snd.rings.n x.snd.rings.n) && true) && (!(x.snd.rings.get ((0 : Nat) + (Int.toNat x.fst.Ring))).nil)) <|
 (.call con_fz (x.snd.rings.get ((0 : Nat) + (Int.toNat x.fst.Ring))).x fun (y4 : R_fz) =>
 (.need ((true && true) && (((Nat.beq x.snd.rings.n x.snd.rings.n) && (Nat.blt ((0 : Nat) + (Int.toNat x.fst.Ring)) x.snd.rings.n)) && (!(x.snd.rings.get ((0 : Nat) + (Int.toNat x.fst.Ring))).nil))) <|
 (.side (((fun v : Nat → V => v = v) (fun i5 => (cond (Nat.beq i5 ((0 : Nat) + (Int.toNat x.fst.Ring))) (V.ptr (Id.loc 30 0) List.nil) (V.Af (x.snd.rings.get i5).nil (V.cons (V.cons (V.int IntKind.u64 (x.snd.rings.get i5).x.AA.tail) (V.cons (V.A0 36 1 (x.snd.rings.get i5).x.AA.AD.nil (x.snd.rings.get i5).x.AA.AD.n (fun i6 => (V.int IntKind.u64 ((x.snd.rings.get i5).x.AA.AD.get i6)))) V.unit)) (V.cons (V.Af (x.snd.rings.get i5).x.s.nil (V.cons (V.A0 175 3 (x.snd.rings.get i5).x.s.x.l.nil (x.snd.rings.get i5).x.s.x.l.n (fun i6 => (V.cons (V.int IntKind.u64 ((x.snd.rings.get i5).x.s.x.l.get i6).AQ) (V.cons (V.int IntKind.u64 ((x.snd.rings.get i5).x.s.x.l.get i6).Value) (V.cons (V.int IntKind.i64 ((x.snd.rings.get i5).x.s.x.l.get i6).Left) V.unit))))) (V.cons (V.int IntKind.i64 (x.snd.rings.get i5).x.s.x.AO) V.unit))) (V.cons (V.int IntKind.u64 (x.snd.rings.get i5).x.most) (V.cons (V.bool (x.snd.rings.get i5).x.closed) V.unit)))))))) ∧ (((fun v : V => v = v) (V.cons (V.cons (V.int IntKind.u64 (x.snd.rings.get ((0 : Nat) + (Int.toNat x.fst.Ring))).x.AA.tail) (V.cons (V.A0 36 1 (x.snd.rings.get ((0 : Nat) + (Int.toNat x.fst.Ring))).x.AA.AD.nil (x.snd.rings.get ((0 : Nat) + (Int.toNat x.fst.Ring))).x.AA.AD.n (fun i5 => (V.int IntKind.u64 ((x.snd.rings.get ((0 : Nat) + (Int.toNat x.fst.Ring))).x.AA.AD.get i5)))) V.unit)) (V.cons (V.Af (x.snd.rings.get ((0 : Nat) + (Int.toNat x.fst.Ring))).x.s.nil (V.cons (V.A0 175 3 (x.snd.rings.get ((0 : Nat) + (Int.toNat x.fst.Ring))).x.s.x.l.nil (x.snd.rings.get ((0 : Nat) + (Int.toNat x.fst.Ring))).x.s.x.l.n (fun i5 => (V.cons (V.int IntKind.u64 ((x.snd.rings.get ((0 : Nat) + (Int.toNat x.fst.Ring))).x.s.x.l.get i5).AQ) (V.cons (V.int IntKind.u64 ((x.snd.rings.get ((0 : Nat) + (Int.toNat x.fst.Ring))).x.s.x.l.get i5).Value) (V.cons (V.int IntKind.i64 ((x.snd.rings.get ((0 : Nat) + (Int.toNat x.fst.Ring))).x.s.x.l.get i5).Left) V.unit))))) (V.cons (V.int IntKind.i64 (x.snd.rings.get ((0 : Nat) + (Int.toNat x.fst.Ring))).x.s.x.AO) V.unit))) (V.cons (V.int IntKind.u64 (x.snd.rings.get ((0 : Nat) + (Int.toNat x.fst.Ring))).x.most) (V.cons (V.bool (x.snd.rings.get ((0 : Nat) + (Int.toNat x.fst.Ring))).x.closed) V.unit))))) ∧ ((fun v : V => v = v) (V.Af (x.snd.rings.get ((0 : Nat) + (Int.toNat x.fst.Ring))).nil (V.cons (V.cons (V.int IntKind.u64 (x.snd.rings.get ((0 : Nat) + (Int.toNat x.fst.Ring))).x.AA.tail) (V.cons (V.A0 36 1 (x.snd.rings.get ((0 : Nat) + (Int.toNat x.fst.Ring))).x.AA.AD.nil (x.snd.rings.get ((0 : Nat) + (Int.toNat x.fst.Ring))).x.AA.AD.n (fun i5 => (V.int IntKind.u64 ((x.snd.rings.get ((0 : Nat) + (Int.toNat x.fst.Ring))).x.AA.AD.get i5)))) V.unit)) (V.cons (V.Af (x.snd.rings.get ((0 : Nat) + (Int.toNat x.fst.Ring))).x.s.nil (V.cons (V.A0 175 3 (x.snd.rings.get ((0 : Nat) + (Int.toNat x.fst.Ring))).x.s.x.l.nil (x.snd.rings.get ((0 : Nat) + (Int.toNat x.fst.Ring))).x.s.x.l.n (fun i5 => (V.cons (V.int IntKind.u64 ((x.snd.rings.get ((0 : Nat) + (Int.toNat x.fst.Ring))).x.s.x.l.get i5).AQ) (V.cons (V.int IntKind.u64 ((x.snd.rings.get ((0 : Nat) + (Int.toNat x.fst.Ring))).x.s.x.l.get i5).Value) (V.cons (V.int IntKind.i64 ((x.snd.rings.get ((0 : Nat) + (Int.toNat x.fst.Ring))).x.s.x.l.get i5).Left) V.unit))))) (V.cons (V.int IntKind.i64 (x.snd.rings.get ((0 : Nat) + (Int.toNat x.fst.Ring))).x.s.x.AO) V.unit))) (V.cons (V.int IntKind.u64 (x.snd.rings.get ((0 : Nat) + (Int.toNat x.fst.Ring))).x.most) (V.cons (V.bool (x.snd.rings.get ((0 : Nat) + (Int.toNat x.fst.Ring))).x.closed) V.unit)))))))) <|
 (.need ((true && true) && (Nat.beq x.snd.rings.n x.snd.rings.n)) <|
 (.ret ((!y4), x.snd))))))))
 (.ret (false, x.snd))))
 (.ite (Ae x.fst.Kind 7)
 (.call con_f11 (y2, x.snd) fun (y3 : R_f11) =>
 (.ite y3
 (.need (BQ x.fst.Ring x.snd.rings.n) <|
 (.need (((Nat.beq x.snd.rings.n x.snd.rings.n) && true) && (!(x.snd.rings.get ((0 : Nat) + (Int.toNat x.fst.Ring))).nil)) <|
 (.call con_fz (x.snd.rings.get ((0 : Nat) + (Int.toNat x.fst.Ring))).x fun (y4 : R_fz) =>
 (.need ((true && true) && (((Nat.beq x.snd.rings.n x.snd.rings.n) && (Nat.blt ((0 : Nat) + (Int.toNat x.fst.Ring)) x.snd.rings.n)) && (!(x.snd.rings.get ((0 : Nat) + (Int.toNat x.fst.Ring))).nil))) <|
 (.side (((fun v : Nat → V => v = v) (fun i5 => (cond (Nat.beq i5 ((0 : Nat) + (Int.toNat x.fst.Ring))) (V.ptr (Id.loc 30 0) List.nil) (V.Af (x.snd.rings.get i5).nil (V.cons (V.cons (V.int IntKind.u64 (x.snd.rings.get i5).x.AA.tail) (V.cons (V.A0 36 1 (x.snd.rings.get i5).x.AA.AD.nil (x.snd.rings.get i5).x.AA.AD.n (fun i6 => (V.int IntKind.u64 ((x.snd.rings.get i5).x.AA.AD.get i6)))) V.unit)) (V.cons (V.Af (x.snd.rings.get i5).x.s.nil (V.cons (V.A0 175 3 (x.snd.rings.get i5).x.s.x.l.nil (x.snd.rings.get i5).x.s.x.l.n (fun i6 => (V.cons (V.int IntKind.u64 ((x.snd.rings.get i5).x.s.x.l.get i6).AQ) (V.cons (V.int IntKind.u64 ((x.snd.rings.get i5).x.s.x.l.get i6).Value) (V.cons (V.int IntKind.i64 ((x.snd.rings.get i5).x.s.x.l.get i6).Left) V.unit))))) (V.cons (V.int IntKind.i64 (x.snd.rings.get i5).x.s.x.AO) V.unit))) (V.cons (V.int IntKind.u64 (x.snd.rings.get i5).x.most) (V.cons (V.bool (x.snd.rings.get i5).x.closed) V.unit)))))))) ∧ (((fun v : V => v = v) (V.cons (V.cons (V.int IntKind.u64 (x.snd.rings.get ((0 : Nat) + (Int.toNat x.fst.Ring))).x.AA.tail) (V.cons (V.A0 36 1 (x.snd.rings.get ((0 : Nat) + (Int.toNat x.fst.Ring))).x.AA.AD.nil (x.snd.rings.get ((0 : Nat) + (Int.toNat x.fst.Ring))).x.AA.AD.n (fun i5 => (V.int IntKind.u64 ((x.snd.rings.get ((0 : Nat) + (Int.toNat x.fst.Ring))).x.AA.AD.get i5)))) V.unit)) (V.cons (V.Af (x.snd.rings.get ((0 : Nat) + (Int.toNat x.fst.Ring))).x.s.nil (V.cons (V.A0 175 3 (x.snd.rings.get ((0 : Nat) + (Int.toNat x.fst.Ring))).x.s.x.l.nil (x.snd.rings.get ((0 : Nat) + (Int.toNat x.fst.Ring))).x.s.x.l.n (fun i5 => (V.cons (V.int IntKind.u64 ((x.snd.rings.get ((0 : Nat) + (Int.toNat x.fst.Ring))).x.s.x.l.get i5).AQ) (V.cons (V.int IntKind.u64 ((x.snd.rings.get ((0 : Nat) + (Int.toNat x.fst.Ring))).x.s.x.l.get i5).Value) (V.cons (V.int IntKind.i64 ((x.snd.rings.get ((0 : Nat) + (Int.toNat x.fst.Ring))).x.s.x.l.get i5).Left) V.unit))))) (V.cons (V.int IntKind.i64 (x.snd.rings.get ((0 : Nat) + (Int.toNat x.fst.Ring))).x.s.x.AO) V.unit))) (V.cons (V.int IntKind.u64 (x.snd.rings.get ((0 : Nat) + (Int.toNat x.fst.Ring))).x.most) (V.cons (V.bool (x.snd.rings.get ((0 : Nat) + (Int.toNat x.fst.Ring))).x.closed) V.unit))))) ∧ ((fun v : V => v = v) (V.Af (x.snd.rings.get ((0 : Nat) + (Int.toNat x.fst.Ring))).nil (V.cons (V.cons (V.int IntKind.u64 (x.snd.rings.get ((0 : Nat) + (Int.toNat x.fst.Ring))).x.AA.tail) (V.cons (V.A0 36 1 (x.snd.rings.get ((0 : Nat) + (Int.toNat x.fst.Ring))).x.AA.AD.nil (x.snd.rings.get ((0 : Nat) + (Int.toNat x.fst.Ring))).x.AA.AD.n (fun i5 => (V.int IntKind.u64 ((x.snd.rings.get ((0 : Nat) + (Int.toNat x.fst.Ring))).x.AA.AD.get i5)))) V.unit)) (V.cons (V.Af (x.snd.rings.get ((0 : Nat) + (Int.toNat x.fst.Ring))).x.s.nil (V.cons (V.A0 175 3 (x.snd.rings.get ((0 : Nat) + (Int.toNat x.fst.Ring))).x.s.x.l.nil (x.snd.rings.get ((0 : Nat) + (Int.toNat x.fst.Ring))).x.s.x.l.n (fun i5 => (V.cons (V.int IntKind.u64 ((x.snd.rings.get ((0 : Nat) + (Int.toNat x.fst.Ring))).x.s.x.l.get i5).AQ) (V.cons (V.int IntKind.u64 ((x.snd.rings.get ((0 : Nat) + (Int.toNat x.fst.Ring))).x.s.x.l.get i5).Value) (V.cons (V.int IntKind.i64 ((x.snd.rings.get ((0 : Nat) + (Int.toNat x.fst.Ring))).x.s.x.l.get i5).Left) V.unit))))) (V.cons (V.int IntKind.i64 (x.snd.rings.get ((0 : Nat) + (Int.toNat x.fst.Ring))).x.s.x.AO) V.unit))) (V.cons (V.int IntKind.u64 (x.snd.rings.get ((0 : Nat) + (Int.toNat x.fst.Ring))).x.most) (V.cons (V.bool (x.snd.rings.get ((0 : Nat) + (Int.toNat x.fst.Ring))).x.closed) V.unit)))))))) <|
 (.need ((true && true) && (Nat.beq x.snd.rings.n x.snd.rings.n)) <|
 (.ret ((!y4), x.snd))))))))
 (.ret (false, x.snd))))
 (.ite (Ae x.fst.Kind 6)
 (.call con_f11 (y2, x.snd) fun (y3 : R_f11) =>
 (.ite y3
 (.need (BQ x.fst.Ring x.snd.rings.n) <|
 (.need (((Nat.beq x.snd.rings.n x.snd.rings.n) && true) && (!(x.snd.rings.get ((0 : Nat) + (Int.toNat x.fst.Ring))).nil)) <|
 (.call con_fz (x.snd.rings.get ((0 : Nat) + (Int.toNat x.fst.Ring))).x fun (y4 : R_fz) =>
 (.need ((true && true) && (((Nat.beq x.snd.rings.n x.snd.rings.n) && (Nat.blt ((0 : Nat) + (Int.toNat x.fst.Ring)) x.snd.rings.n)) && (!(x.snd.rings.get ((0 : Nat) + (Int.toNat x.fst.Ring))).nil))) <|
 (.side (((fun v : Nat → V => v = v) (fun i5 => (cond (Nat.beq i5 ((0 : Nat) + (Int.toNat x.fst.Ring))) (V.ptr (Id.loc 47 0) List.nil) (V.Af (x.snd.rings.get i5).nil (V.cons (V.cons (V.int IntKind.u64 (x.snd.rings.get i5).x.AA.tail) (V.cons (V.A0 36 1 (x.snd.rings.get i5).x.AA.AD.nil (x.snd.rings.get i5).x.AA.AD.n (fun i6 => (V.int IntKind.u64 ((x.snd.rings.get i5).x.AA.AD.get i6)))) V.unit)) (V.cons (V.Af (x.snd.rings.get i5).x.s.nil (V.cons (V.A0 175 3 (x.snd.rings.get i5).x.s.x.l.nil (x.snd.rings.get i5).x.s.x.l.n (fun i6 => (V.cons (V.int IntKind.u64 ((x.snd.rings.get i5).x.s.x.l.get i6).AQ) (V.cons (V.int IntKind.u64 ((x.snd.rings.get i5).x.s.x.l.get i6).Value) (V.cons (V.int IntKind.i64 ((x.snd.rings.get i5).x.s.x.l.get i6).Left) V.unit))))) (V.cons (V.int IntKind.i64 (x.snd.rings.get i5).x.s.x.AO) V.unit))) (V.cons (V.int IntKind.u64 (x.snd.rings.get i5).x.most) (V.cons (V.bool (x.snd.rings.get i5).x.closed) V.unit)))))))) ∧ (((fun v : V => v = v) (V.cons (V.cons (V.int IntKind.u64 (x.snd.rings.get ((0 : Nat) + (Int.toNat x.fst.Ring))).x.AA.tail) (V.cons (V.A0 36 1 (x.snd.rings.get ((0 : Nat) + (Int.toNat x.fst.Ring))).x.AA.AD.nil (x.snd.rings.get ((0 : Nat) + (Int.toNat x.fst.Ring))).x.AA.AD.n (fun i5 => (V.int IntKind.u64 ((x.snd.rings.get ((0 : Nat) + (Int.toNat x.fst.Ring))).x.AA.AD.get i5)))) V.unit)) (V.cons (V.Af (x.snd.rings.get ((0 : Nat) + (Int.toNat x.fst.Ring))).x.s.nil (V.cons (V.A0 175 3 (x.snd.rings.get ((0 : Nat) + (Int.toNat x.fst.Ring))).x.s.x.l.nil (x.snd.rings.get ((0 : Nat) + (Int.toNat x.fst.Ring))).x.s.x.l.n (fun i5 => (V.cons (V.int IntKind.u64 ((x.snd.rings.get ((0 : Nat) + (Int.toNat x.fst.Ring))).x.s.x.l.get i5).AQ) (V.cons (V.int IntKind.u64 ((x.snd.rings.get ((0 : Nat) + (Int.toNat x.fst.Ring))).x.s.x.l.get i5).Value) (V.cons (V.int IntKind.i64 ((x.snd.rings.get ((0 : Nat) + (Int.toNat x.fst.Ring))).x.s.x.l.get i5).Left) V.unit))))) (V.cons (V.int IntKind.i64 (x.snd.rings.get ((0 : Nat) + (Int.toNat x.fst.Ring))).x.s.x.AO) V.unit))) (V.cons (V.int IntKind.u64 (x.snd.rings.get ((0 : Nat) + (Int.toNat x.fst.Ring))).x.most) (V.cons (V.bool (x.snd.rings.get ((0 : Nat) + (Int.toNat x.fst.Ring))).x.closed) V.unit))))) ∧ ((fun v : V => v = v) (V.Af (x.snd.rings.get ((0 : Nat) + (Int.toNat x.fst.Ring))).nil (V.cons (V.cons (V.int IntKind.u64 (x.snd.rings.get ((0 : Nat) + (Int.toNat x.fst.Ring))).x.AA.tail) (V.cons (V.A0 36 1 (x.snd.rings.get ((0 : Nat) + (Int.toNat x.fst.Ring))).x.AA.AD.nil (x.snd.rings.get ((0 : Nat) + (Int.toNat x.fst.Ring))).x.AA.AD.n (fun i5 => (V.int IntKind.u64 ((x.snd.rings.get ((0 : Nat) + (Int.toNat x.fst.Ring))).x.AA.AD.get i5)))) V.unit)) (V.cons (V.Af (x.snd.rings.get ((0 : Nat) + (Int.toNat x.fst.Ring))).x.s.nil (V.cons (V.A0 175 3 (x.snd.rings.get ((0 : Nat) + (Int.toNat x.fst.Ring))).x.s.x.l.nil (x.snd.rings.get ((0 : Nat) + (Int.toNat x.fst.Ring))).x.s.x.l.n (fun i5 => (V.cons (V.int IntKind.u64 ((x.snd.rings.get ((0 : Nat) + (Int.toNat x.fst.Ring))).x.s.x.l.get i5).AQ) (V.cons (V.int IntKind.u64 ((x.snd.rings.get ((0 : Nat) + (Int.toNat x.fst.Ring))).x.s.x.l.get i5).Value) (V.cons (V.int IntKind.i64 ((x.snd.rings.get ((0 : Nat) + (Int.toNat x.fst.Ring))).x.s.x.l.get i5).Left) V.unit))))) (V.cons (V.int IntKind.i64 (x.snd.rings.get ((0 : Nat) + (Int.toNat x.fst.Ring))).x.s.x.AO) V.unit))) (V.cons (V.int IntKind.u64 (x.snd.rings.get ((0 : Nat) + (Int.toNat x.fst.Ring))).x.most) (V.cons (V.bool (x.snd.rings.get ((0 : Nat) + (Int.toNat x.fst.Ring))).x.closed) V.unit)))))))) <|
 (.need ((true && true) && (Nat.beq x.snd.rings.n x.snd.rings.n)) <|
 (.ret (y4, x.snd))))))))
 (.ret (false, x.snd))))
 (.ite (Ae x.fst.Kind 8)
 (.ite (B6 x.snd.now x.fst.Value)
 (.ret ((B8 (IntKind.u64.wrap (x.fst.Value - x.snd.now)) 1048576), x.snd))
 (.ret (false, x.snd)))
 (.ite (Ae x.fst.Kind 10)
 (.ret ((!x.snd.ended), x.snd))
 (.ite (Ae x.fst.Kind 1)
 (.call con_f18 (x.fst, (y2, x.snd)) fun (y3 : R_f18) =>
 (.ite y3
 (.need (BQ x.fst.Ring x.snd.rings.n) <|
 (.need (((Nat.beq x.snd.rings.n x.snd.rings.n) && true) && (!(x.snd.rings.get ((0 : Nat) + (Int.toNat x.fst.Ring))).nil)) <|
 (.call con_fz (x.snd.rings.get ((0 : Nat) + (Int.toNat x.fst.Ring))).x fun (y4 : R_fz) =>
 (.need ((true && true) && (((Nat.beq x.snd.rings.n x.snd.rings.n) && (Nat.blt ((0 : Nat) + (Int.toNat x.fst.Ring)) x.snd.rings.n)) && (!(x.snd.rings.get ((0 : Nat) + (Int.toNat x.fst.Ring))).nil))) <|
 (.side (((fun v : Nat → V => v = v) (fun i5 => (cond (Nat.beq i5 ((0 : Nat) + (Int.toNat x.fst.Ring))) (V.ptr (Id.loc 90 0) List.nil) (V.Af (x.snd.rings.get i5).nil (V.cons (V.cons (V.int IntKind.u64 (x.snd.rings.get i5).x.AA.tail) (V.cons (V.A0 36 1 (x.snd.rings.get i5).x.AA.AD.nil (x.snd.rings.get i5).x.AA.AD.n (fun i6 => (V.int IntKind.u64 ((x.snd.rings.get i5).x.AA.AD.get i6)))) V.unit)) (V.cons (V.Af (x.snd.rings.get i5).x.s.nil (V.cons (V.A0 175 3 (x.snd.rings.get i5).x.s.x.l.nil (x.snd.rings.get i5).x.s.x.l.n (fun i6 => (V.cons (V.int IntKind.u64 ((x.snd.rings.get i5).x.s.x.l.get i6).AQ) (V.cons (V.int IntKind.u64 ((x.snd.rings.get i5).x.s.x.l.get i6).Value) (V.cons (V.int IntKind.i64 ((x.snd.rings.get i5).x.s.x.l.get i6).Left) V.unit))))) (V.cons (V.int IntKind.i64 (x.snd.rings.get i5).x.s.x.AO) V.unit))) (V.cons (V.int IntKind.u64 (x.snd.rings.get i5).x.most) (V.cons (V.bool (x.snd.rings.get i5).x.closed) V.unit)))))))) ∧ (((fun v : V => v = v) (V.cons (V.cons (V.int IntKind.u64 (x.snd.rings.get ((0 : Nat) + (Int.toNat x.fst.Ring))).x.AA.tail) (V.cons (V.A0 36 1 (x.snd.rings.get ((0 : Nat) + (Int.toNat x.fst.Ring))).x.AA.AD.nil (x.snd.rings.get ((0 : Nat) + (Int.toNat x.fst.Ring))).x.AA.AD.n (fun i5 => (V.int IntKind.u64 ((x.snd.rings.get ((0 : Nat) + (Int.toNat x.fst.Ring))).x.AA.AD.get i5)))) V.unit)) (V.cons (V.Af (x.snd.rings.get ((0 : Nat) + (Int.toNat x.fst.Ring))).x.s.nil (V.cons (V.A0 175 3 (x.snd.rings.get ((0 : Nat) + (Int.toNat x.fst.Ring))).x.s.x.l.nil (x.snd.rings.get ((0 : Nat) + (Int.toNat x.fst.Ring))).x.s.x.l.n (fun i5 => (V.cons (V.int IntKind.u64 ((x.snd.rings.get ((0 : Nat) + (Int.toNat x.fst.Ring))).x.s.x.l.get i5).AQ) (V.cons (V.int IntKind.u64 ((x.snd.rings.get ((0 : Nat) + (Int.toNat x.fst.Ring))).x.s.x.l.get i5).Value) (V.cons (V.int IntKind.i64 ((x.snd.rings.get ((0 : Nat) + (Int.toNat x.fst.Ring))).x.s.x.l.get i5).Left) V.unit))))) (V.cons (V.int IntKind.i64 (x.snd.rings.get ((0 : Nat) + (Int.toNat x.fst.Ring))).x.s.x.AO) V.unit))) (V.cons (V.int IntKind.u64 (x.snd.rings.get ((0 : Nat) + (Int.toNat x.fst.Ring))).x.most) (V.cons (V.bool (x.snd.rings.get ((0 : Nat) + (Int.toNat x.fst.Ring))).x.closed) V.unit))))) ∧ ((fun v : V => v = v) (V.Af (x.snd.rings.get ((0 : Nat) + (Int.toNat x.fst.Ring))).nil (V.cons (V.cons (V.int IntKind.u64 (x.snd.rings.get ((0 : Nat) + (Int.toNat x.fst.Ring))).x.AA.tail) (V.cons (V.A0 36 1 (x.snd.rings.get ((0 : Nat) + (Int.toNat x.fst.Ring))).x.AA.AD.nil (x.snd.rings.get ((0 : Nat) + (Int.toNat x.fst.Ring))).x.AA.AD.n (fun i5 => (V.int IntKind.u64 ((x.snd.rings.get ((0 : Nat) + (Int.toNat x.fst.Ring))).x.AA.AD.get i5)))) V.unit)) (V.cons (V.Af (x.snd.rings.get ((0 : Nat) + (Int.toNat x.fst.Ring))).x.s.nil (V.cons (V.A0 175 3 (x.snd.rings.get ((0 : Nat) + (Int.toNat x.fst.Ring))).x.s.x.l.nil (x.snd.rings.get ((0 : Nat) + (Int.toNat x.fst.Ring))).x.s.x.l.n (fun i5 => (V.cons (V.int IntKind.u64 ((x.snd.rings.get ((0 : Nat) + (Int.toNat x.fst.Ring))).x.s.x.l.get i5).AQ) (V.cons (V.int IntKind.u64 ((x.snd.rings.get ((0 : Nat) + (Int.toNat x.fst.Ring))).x.s.x.l.get i5).Value) (V.cons (V.int IntKind.i64 ((x.snd.rings.get ((0 : Nat) + (Int.toNat x.fst.Ring))).x.s.x.l.get i5).Left) V.unit))))) (V.cons (V.int IntKind.i64 (x.snd.rings.get ((0 : Nat) + (Int.toNat x.fst.Ring))).x.s.x.AO) V.unit))) (V.cons (V.int IntKind.u64 (x.snd.rings.get ((0 : Nat) + (Int.toNat x.fst.Ring))).x.most) (V.cons (V.bool (x.snd.rings.get ((0 : Nat) + (Int.toNat x.fst.Ring))).x.closed) V.unit)))))))) <|
 (.need ((true && true) && (Nat.beq x.snd.rings.n x.snd.rings.n)) <|
 (.ret ((!y4), x.snd))))))))
 (.ret (false, x.snd))))
 (.Ab S_fb_16 D_fb_16 (X_fb_16.mk x.fst x.snd y2)))))))))))
theorem sd_fb (x : X_fb) : (tt_fb x).AJ :=
 (TT.sC fun _ => (TT.sI TT.sR (TT.sC fun _ => (TT.sI (TT.sC fun _ => (TT.sI (TT.sN (TT.sN (TT.sC fun _ => (TT.sN (TT.sS ⟨rfl, ⟨rfl, rfl⟩⟩ (TT.sN TT.sR)))))) TT.sR)) (TT.sI (TT.sC fun _ => (TT.sI (TT.sN (TT.sN (TT.sC fun _ => (TT.sN (TT.sS ⟨rfl, ⟨rfl, rfl⟩⟩ (TT.sN TT.sR)))))) TT.sR)) (TT.sI (TT.sC fun _ => (TT.sI (TT.sN (TT.sN (TT.sC fun _ => (TT.sN (TT.sS ⟨rfl, ⟨rfl, rfl⟩⟩ (TT.sN TT.sR)))))) TT.sR)) (TT.sI (TT.sI TT.sR TT.sR) (TT.sI TT.sR (TT.sI (TT.sC fun _ => (TT.sI (TT.sN (TT.sN (TT.sC fun _ => (TT.sN (TT.sS ⟨rfl, ⟨rfl, rfl⟩⟩ (TT.sN TT.sR)))))) TT.sR)) TT.sJ)))))))))
theorem roT_fb (x : X_fb) : TT.Ro p_fb (w_fb x) (tt_fb x) :=
 (TT.rC fun _ => (TT.rI (TT.rR rfl) (TT.rC fun _ => (TT.rI (TT.rC fun _ => (TT.rI (TT.rN (TT.rN (TT.rC fun _ => (TT.rN (TT.rS (TT.rN (TT.rR rfl))))))) (TT.rR rfl))) (TT.rI (TT.rC fun _ => (TT.rI (TT.rN (TT.rN (TT.rC fun _ => (TT.rN (TT.rS (TT.rN (TT.rR rfl))))))) (TT.rR rfl))) (TT.rI (TT.rC fun _ => (TT.rI (TT.rN (TT.rN (TT.rC fun _ => (TT.rN (TT.rS (TT.rN (TT.rR rfl))))))) (TT.rR rfl))) (TT.rI (TT.rI (TT.rR rfl) (TT.rR rfl)) (TT.rI (TT.rR rfl) (TT.rI (TT.rC fun _ => (TT.rI (TT.rN (TT.rN (TT.rC fun _ => (TT.rN (TT.rS (TT.rN (TT.rR rfl))))))) (TT.rR rfl))) (TT.rJ (ro_fb_16 _)))))))))))
def D_fb : AS X_fb R_fb := .ro (.of tt_fb) (fun y => (y.1)) (fun y x => (y, x.2)) fun x y h => congrArg (fun o => (y.1, o)) (roT_fb x y h)
def con_fb : BN Tryz.prog :=
 DC 63 J_fb S_fb (.of tt_fb) D_fb (fun y x => (y, x.2)) (fun y => V.bool y) 2 1 [.any, .any] (lk mxk (lbc ok_fb_16 rfl lbn) sd_fb) (fun x => ⟨(nu_e_TFa : ∀ y, (e_TFa y).Cd) (x.2), trivial⟩)
structure AU where
 Bz : Int
 Df : Int
 GY : Int
 G6 : Bool
def Bw (v : V) : AU :=
 ⟨dI (fd v 0), dI (fd v 1), dI (fd v 2), dB (fd v 3)⟩
def Bn (x : AU) : V :=
 V.cons ((V.int .i64) x.Bz) (V.cons ((V.int .u64) x.Df) (V.cons ((V.int .u64) x.GY) (V.cons (V.bool x.G6) (V.unit))))
theorem Ra (x : AU) : (Bn x).Cd := ⟨trivial, trivial, trivial, trivial, trivial⟩
abbrev X_f2d : Type := (Bx TRr)
abbrev R_f2d : Type := Int
def J_f2d : BT Tryz.prog :=
 Bg Tryz.prog Tryz.f81 10 [(5, 1)] [] [(0, [.open_ 0])] [] [.any] [] [] R_f2d [] fun y => [(V.int .u64) y]
def S_f2d : AR :=
 Aq Tryz.f81 1 0 X_f2d (fun x => [ebox_TRr x]) fun l => (dbox_TRr (at_ l 0))
def tt_f2d (x : X_f2d) : TT Tryz.prog R_f2d :=
 (.need (!x.nil) <|
 (.ret x.x.AA.tail))
theorem sd_f2d (x : X_f2d) : (tt_f2d x).AJ :=
 (TT.sN TT.sR)
def D_f2d : AS X_f2d R_f2d := .of tt_f2d
def con_f2d : BN Tryz.prog :=
 CY 81 J_f2d S_f2d D_f2d 1 0 [hbox_TRr] (lk mxk lbn sd_f2d)
abbrev X_ff : Type := (Sl Int) × TAk × AU × TFa
abbrev R_ff : Type := TEv × Bool
abbrev RR_ff : Type := TEv × Bool × TFa
abbrev p_ff (y : RR_ff) : TFa := y.2.2
abbrev w_ff (x : X_ff) : TFa := x.2.2.2
def J_ff : BT Tryz.prog :=
 Bg Tryz.prog Tryz.f43 98 [(6, 3), (7, 3), (79, 1)] [] [] [] [.any, .any] [sh_TFa] [con_fb, con_f1c, con_fe, con_f2d, con_f17, con_fp] RR_ff [] fun y => [V.CR (V.cons (e_TEv y.1) (V.cons (V.bool y.2.1) (V.unit))), e_TFa y.2.2]
def S_ff : AR :=
 Aq Tryz.f43 4 1 X_ff (fun x => [(V.ptr (.par 0) []), BL x.1, e_TAk x.2.1, Bn x.2.2.1, e_TFa x.2.2.2]) fun l => (Bi (at_ l 1), d_TAk (at_ l 2), Bw (at_ l 3), d_TFa (at_ l 4))
structure X_ff_26 where
 Ad : TFa
 VE : TEv
 CP : TEv
def S_ff_26 : AR :=
 Ai Tryz.f43 26 (an [0, 8, 10]) [sh_TFa] [(.loc 8 0, .any), (.loc 10 0, .any)] X_ff_26 (fun x => [(V.ptr (.par 0) []), (V.ptr (.loc 8 0) []), (V.ptr (.loc 10 0) []), e_TFa x.Ad, e_TEv x.VE, e_TEv x.CP]) fun l => ⟨d_TFa (at_ l 3), d_TEv (at_ l 4), d_TEv (at_ l 5)⟩
abbrev w_ff_26 (x : X_ff_26) : TFa := (x.Ad)
def tt_ff_26 (x : X_ff_26) : TT Tryz.prog RR_ff :=
 (.call con_fb (x.CP, x.Ad) fun (y1 : R_fb) =>
 (.ret (x.CP, (y1, x.Ad))))
theorem sd_ff_26 (x : X_ff_26) : (tt_ff_26 x).AJ :=
 (TT.sC fun _ => TT.sR)
theorem roT_ff_26 (x : X_ff_26) : TT.Ro p_ff (w_ff_26 x) (tt_ff_26 x) :=
 (TT.rC fun _ => (TT.rR rfl))
def D_ff_26 : AS X_ff_26 RR_ff := .of tt_ff_26
theorem ok_ff_26 : AX J_ff S_ff_26 D_ff_26 :=
 lk mxk lbn sd_ff_26
theorem ro_ff_26 : ∀ x y, D_ff_26.rel x y → p_ff y = w_ff_26 x :=
 roT_ff_26 
def tt_ff (x : X_ff) : TT Tryz.prog RR_ff :=
 (.ite (Ae x.snd.fst.Kind 0)
 (.ret ((TEv.mk x.snd.snd.fst.Bz 0 0 0 0), (false, x.snd.snd.snd)))
 (.ite (Ae x.snd.fst.Kind 1)
 (.call con_fp (x.snd.fst, ((TEv.mk x.snd.snd.fst.Bz 0 0 0 0), (x.snd.snd.fst.G6, x.snd.snd.snd))) fun (y1 : R_fp) =>
 (.ret (y1.fst, (y1.snd, x.snd.snd.snd))))
 (.ite (Ae x.snd.fst.Kind 2)
 (.call con_fp (x.snd.fst, ((TEv.mk x.snd.snd.fst.Bz 0 0 0 0), (x.snd.snd.fst.G6, x.snd.snd.snd))) fun (y1 : R_fp) =>
 (.ret (y1.fst, (y1.snd, x.snd.snd.snd))))
 (.ite (Ae x.snd.fst.Kind 10)
 (.Ab S_ff_26 D_ff_26 (X_ff_26.mk x.snd.snd.snd (TEv.mk 0 0 0 0 0) (TEv.mk x.snd.snd.fst.Bz 2 x.snd.fst.Ring x.snd.fst.AG 0)))
 (.ite (Ae x.snd.fst.Kind 11)
 (.Ab S_ff_26 D_ff_26 (X_ff_26.mk x.snd.snd.snd (TEv.mk 0 0 0 0 0) (TEv.mk x.snd.snd.fst.Bz 4 x.snd.fst.Ring x.snd.fst.AG 0)))
 (.ite (Ae x.snd.fst.Kind 3)
 (.call con_fe (x.snd.fst.Ring, x.snd.snd.snd) fun (y1 : R_fe) =>
 (.call con_f2d y1 fun (y2 : R_f2d) =>
 (.Ab S_ff_26 D_ff_26 (X_ff_26.mk x.snd.snd.snd (TEv.mk 0 0 0 0 0) (TEv.mk x.snd.snd.fst.Bz 13 x.snd.fst.Ring y2 0)))))
 (.ite (Ae x.snd.fst.Kind 4)
 (.call con_f1c x.snd.snd.snd fun (y1 : R_f1c) =>
 (.Ab S_ff_26 D_ff_26 (X_ff_26.mk x.snd.snd.snd (TEv.mk 0 0 0 0 0) (TEv.mk x.snd.snd.fst.Bz 8 0 0 (IntKind.u64.wrap (y1 + (Int.tmod x.snd.snd.fst.Df 1048576)))))))
 (.ite (Ae x.snd.fst.Kind 5)
 (.Ab S_ff_26 D_ff_26 (X_ff_26.mk x.snd.snd.snd (TEv.mk 0 0 0 0 0) (TEv.mk x.snd.snd.fst.Bz 9 0 0 x.snd.snd.fst.GY)))
 (.ite (Ae x.snd.fst.Kind 6)
 (.call con_f17 (x.fst, ((TEv.mk x.snd.snd.fst.Bz 0 0 0 0), x.snd.snd.snd)) fun (y1 : R_f17) =>
 (.Ab S_ff_26 D_ff_26 (X_ff_26.mk x.snd.snd.snd (TEv.mk 0 0 0 0 0) y1)))
 (.ite (Ae x.snd.fst.Kind 7)
 (.Ab S_ff_26 D_ff_26 (X_ff_26.mk x.snd.snd.snd (TEv.mk 0 0 0 0 0) (TEv.mk x.snd.snd.fst.Bz 12 0 0 x.snd.fst.Value)))
 (.ite (Ae x.snd.fst.Kind 8)
 (.Ab S_ff_26 D_ff_26 (X_ff_26.mk x.snd.snd.snd (TEv.mk 0 0 0 0 0) (TEv.mk x.snd.snd.fst.Bz 14 0 0 0)))
 (.ite (Ae x.snd.fst.Kind 9)
 (.Ab S_ff_26 D_ff_26 (X_ff_26.mk x.snd.snd.snd (TEv.mk 0 0 0 0 0) (TEv.mk x.snd.snd.fst.Bz 15 0 0 0)))
 (.Ab S_ff_26 D_ff_26 (X_ff_26.mk x.snd.snd.snd (TEv.mk 0 0 0 0 0) (TEv.mk x.snd.snd.fst.Bz 0 0 0 0)))))))))))))))
theorem sd_ff (x : X_ff) : (tt_ff x).AJ :=
 (TT.sI TT.sR (TT.sI (TT.sC fun _ => TT.sR) (TT.sI (TT.sC fun _ => TT.sR) (TT.sI TT.sJ (TT.sI TT.sJ (TT.sI (TT.sC fun _ => (TT.sC fun _ => TT.sJ)) (TT.sI (TT.sC fun _ => TT.sJ) (TT.sI TT.sJ (TT.sI (TT.sC fun _ => TT.sJ) (TT.sI TT.sJ (TT.sI TT.sJ (TT.sI TT.sJ TT.sJ))))))))))))
theorem roT_ff (x : X_ff) : TT.Ro p_ff (w_ff x) (tt_ff x) :=
 (TT.rI (TT.rR rfl) (TT.rI (TT.rC fun _ => (TT.rR rfl)) (TT.rI (TT.rC fun _ => (TT.rR rfl)) (TT.rI (TT.rJ (ro_ff_26 _)) (TT.rI (TT.rJ (ro_ff_26 _)) (TT.rI (TT.rC fun _ => (TT.rC fun _ => (TT.rJ (ro_ff_26 _)))) (TT.rI (TT.rC fun _ => (TT.rJ (ro_ff_26 _))) (TT.rI (TT.rJ (ro_ff_26 _)) (TT.rI (TT.rC fun _ => (TT.rJ (ro_ff_26 _))) (TT.rI (TT.rJ (ro_ff_26 _)) (TT.rI (TT.rJ (ro_ff_26 _)) (TT.rI (TT.rJ (ro_ff_26 _)) (TT.rJ (ro_ff_26 _))))))))))))))
def D_ff : AS X_ff R_ff := .ro (.of tt_ff) (fun y => (y.1, y.2.1)) (fun y x => (y.1, y.2, x.2.2.2)) fun x y h => congrArg (fun o => (y.1, y.2.1, o)) (roT_ff x y h)
def con_ff : BN Tryz.prog :=
 DC 43 J_ff S_ff (.of tt_ff) D_ff (fun y x => (y.1, y.2, x.2.2.2)) (fun y => V.CR (V.cons (e_TEv y.1) (V.cons (V.bool y.2) (V.unit)))) 4 1 [.any, BU, .any, .any] (lk mxk (lbc ok_ff_26 rfl lbn) sd_ff) (fun x => ⟨(nu_e_TFa : ∀ y, (e_TFa y).Cd) (x.2.2.2), trivial⟩)
abbrev X_f28 : Type := (Sl Int) × AU × TFa
abbrev R_f28 : Type := TEv × Bool
abbrev RR_f28 : Type := TEv × Bool × TFa
abbrev p_f28 (y : RR_f28) : TFa := y.2.2
abbrev w_f28 (x : X_f28) : TFa := x.2.2
def J_f28 : BT Tryz.prog :=
 Bg Tryz.prog Tryz.f15 34 [(5, 3), (12, 1), (22, 1), (24, 1)] [] [] [] [.any, .any] [sh_TFa] [con_f1g, con_ff] RR_f28 [] fun y => [V.CR (V.cons (e_TEv y.1) (V.cons (V.bool y.2.1) (V.unit))), e_TFa y.2.2]
def S_f28 : AR :=
 Aq Tryz.f15 3 1 X_f28 (fun x => [(V.ptr (.par 0) []), BL x.1, Bn x.2.1, e_TFa x.2.2]) fun l => (Bi (at_ l 1), Bw (at_ l 2), d_TFa (at_ l 3))
def tt_f28 (x : X_f28) : TT Tryz.prog RR_f28 :=
 (.call con_f1g (x.snd.fst.Bz, x.snd.snd) fun (y1 : R_f1g) =>
 (.ite (!(Ae y1.snd 0))
 (.ret ((TEv.mk 0 0 0 0 0), (false, x.snd.snd)))
 (.call con_ff (x.fst, (y1.fst, (x.snd.fst, x.snd.snd))) fun (y2 : R_ff) =>
 (.ite (!y2.snd)
 (.ret ((TEv.mk 0 0 0 0 0), (false, x.snd.snd)))
 (.ret (y2.fst, (true, x.snd.snd)))))))
theorem sd_f28 (x : X_f28) : (tt_f28 x).AJ :=
 (TT.sC fun _ => (TT.sI TT.sR (TT.sC fun _ => (TT.sI TT.sR TT.sR))))
theorem roT_f28 (x : X_f28) : TT.Ro p_f28 (w_f28 x) (tt_f28 x) :=
 (TT.rC fun _ => (TT.rI (TT.rR rfl) (TT.rC fun _ => (TT.rI (TT.rR rfl) (TT.rR rfl)))))
def D_f28 : AS X_f28 R_f28 := .ro (.of tt_f28) (fun y => (y.1, y.2.1)) (fun y x => (y.1, y.2, x.2.2)) fun x y h => congrArg (fun o => (y.1, y.2.1, o)) (roT_f28 x y h)
def con_f28 : BN Tryz.prog :=
 DC 15 J_f28 S_f28 (.of tt_f28) D_f28 (fun y x => (y.1, y.2, x.2.2)) (fun y => V.CR (V.cons (e_TEv y.1) (V.cons (V.bool y.2) (V.unit)))) 3 1 [.any, BU, .any] (lk mxk lbn sd_f28) (fun x => ⟨(nu_e_TFa : ∀ y, (e_TFa y).Cd) (x.2.2), trivial⟩)
abbrev X_f2f : Type := TRr
abbrev R_f2f : Type := Int × Int × TRr
def J_f2f : BT Tryz.prog :=
 Bg Tryz.prog Tryz.f165 30 [] [] [] [] [.any, .any] [sh_TRr] [con_f1e] R_f2f [] fun y => [V.CR (V.cons ((V.int .u64) y.1) (V.cons ((V.int .i64) y.2.1) (V.unit))), e_TRr y.2.2]
def S_f2f : AR :=
 Aq Tryz.f165 1 1 X_f2f (fun x => [(V.ptr (.par 0) []), e_TRr x]) fun l => (d_TRr (at_ l 1))
def tt_f2f (x : X_f2f) : TT Tryz.prog R_f2f :=
 (.ite x.closed
 (.ret (0, (10, x)))
 (.call con_f1e x fun (y1 : R_f1e) =>
 (.ite y1
 (.ret (0, (8, x)))
 (.ret ((IntKind.u64.wrap ((IntKind.u64.wrap (x.AA.tail + 1)) - 1)), (0, (TRr.mk (TRc.mk (IntKind.u64.wrap (x.AA.tail + 1)) x.AA.AD) x.s x.most x.closed)))))))
theorem sd_f2f (x : X_f2f) : (tt_f2f x).AJ :=
 (TT.sI TT.sR (TT.sC fun _ => (TT.sI TT.sR TT.sR)))
def D_f2f : AS X_f2f R_f2f := .of tt_f2f
def con_f2f : BN Tryz.prog :=
 CY 165 J_f2f S_f2f D_f2f 1 1 [.any] (lk mxk lbn sd_f2f)
abbrev X_f22 : Type := Int × TFa
abbrev R_f22 : Type := TFa
def J_f22 : BT Tryz.prog :=
 Bg Tryz.prog Tryz.f118 56 [(9, 1), (34, 1), (54, 1)] [(1, [.close (.loc 16 0), .close (.loc 13 0)]), (2, [.close (.loc 16 0), .close (.loc 13 0)]), (3, [.close (.loc 28 0), .close (.loc 25 0), .close (.loc 16 0), .close (.loc 13 0)]), (4, [.close (.loc 28 0), .close (.loc 25 0), .close (.loc 16 0), .close (.loc 13 0)]), (5, [.close (.loc 28 0), .close (.loc 25 0), .close (.loc 16 0), .close (.loc 13 0)]), (6, [.close (.loc 28 0), .close (.loc 25 0), .close (.loc 16 0), .close (.loc 13 0)])] [] [.close (.loc 52 0), .close (.loc 28 0), .close (.loc 25 0), .close (.loc 16 0), .close (.loc 13 0)] [] [sh_TFa] [con_f9, con_f2f, con_f1d] R_f22 [] fun y => [V.CR (V.unit), e_TFa y]
def S_f22 : AR :=
 Aq Tryz.f118 2 1 X_f22 (fun x => [(V.ptr (.par 0) []), (V.int .i64) x.1, e_TFa x.2]) fun l => (dI (at_ l 1), d_TFa (at_ l 2))
def tt_f22 (x : X_f22) : TT Tryz.prog R_f22 :=
 (.need (BQ x.fst x.snd.rings.n) <|
 (.need (((Nat.beq x.snd.rings.n x.snd.rings.n) && true) && (!(x.snd.rings.get ((0 : Nat) + (Int.toNat x.fst))).nil)) <|
 (.call con_f2f (x.snd.rings.get ((0 : Nat) + (Int.toNat x.fst))).x fun (y1 : R_f2f) =>
 (.need ((true && true) && ((Nat.beq x.snd.rings.n x.snd.rings.n) && (Nat.blt ((0 : Nat) + (Int.toNat x.fst)) x.snd.rings.n))) <|
 (.side ((fun v : Nat → V => v = v) (fun i2 => (cond (Nat.beq i2 ((0 : Nat) + (Int.toNat x.fst))) (V.ptr (Id.loc 16 0) List.nil) (V.Af (x.snd.rings.get i2).nil (V.cons (V.cons (V.int IntKind.u64 (x.snd.rings.get i2).x.AA.tail) (V.cons (V.A0 36 1 (x.snd.rings.get i2).x.AA.AD.nil (x.snd.rings.get i2).x.AA.AD.n (fun i3 => (V.int IntKind.u64 ((x.snd.rings.get i2).x.AA.AD.get i3)))) V.unit)) (V.cons (V.Af (x.snd.rings.get i2).x.s.nil (V.cons (V.A0 175 3 (x.snd.rings.get i2).x.s.x.l.nil (x.snd.rings.get i2).x.s.x.l.n (fun i3 => (V.cons (V.int IntKind.u64 ((x.snd.rings.get i2).x.s.x.l.get i3).AQ) (V.cons (V.int IntKind.u64 ((x.snd.rings.get i2).x.s.x.l.get i3).Value) (V.cons (V.int IntKind.i64 ((x.snd.rings.get i2).x.s.x.l.get i3).Left) V.unit))))) (V.cons (V.int IntKind.i64 (x.snd.rings.get i2).x.s.x.AO) V.unit))) (V.cons (V.int IntKind.u64 (x.snd.rings.get i2).x.most) (V.cons (V.bool (x.snd.rings.get i2).x.closed) V.unit)))))))) <|
 (.need ((true && true) && (Nat.beq x.snd.rings.n x.snd.rings.n)) <|
 (.ite (!(Ae y1.snd.fst 10))
 (.ret (TFa.mk x.snd.p x.snd.threads (Sl.mk x.snd.rings.nil x.snd.rings.n (fun i2 => (Bx.mk (cond (Nat.beq i2 ((0 : Nat) + (Int.toNat x.fst))) false (x.snd.rings.get i2).nil) (TRr.mk (TRc.mk (cond (Nat.beq i2 ((0 : Nat) + (Int.toNat x.fst))) y1.snd.snd.AA.tail (x.snd.rings.get i2).x.AA.tail) (Sl.mk (cond (Nat.beq i2 ((0 : Nat) + (Int.toNat x.fst))) y1.snd.snd.AA.AD.nil (x.snd.rings.get i2).x.AA.AD.nil) (cond (Nat.beq i2 ((0 : Nat) + (Int.toNat x.fst))) y1.snd.snd.AA.AD.n (x.snd.rings.get i2).x.AA.AD.n) (fun i3 => (cond (Nat.beq i2 ((0 : Nat) + (Int.toNat x.fst))) (y1.snd.snd.AA.AD.get i3) ((x.snd.rings.get i2).x.AA.AD.get i3))))) (Bx.mk (cond (Nat.beq i2 ((0 : Nat) + (Int.toNat x.fst))) y1.snd.snd.s.nil (x.snd.rings.get i2).x.s.nil) (TSs.mk (Sl.mk (cond (Nat.beq i2 ((0 : Nat) + (Int.toNat x.fst))) y1.snd.snd.s.x.l.nil (x.snd.rings.get i2).x.s.x.l.nil) (cond (Nat.beq i2 ((0 : Nat) + (Int.toNat x.fst))) y1.snd.snd.s.x.l.n (x.snd.rings.get i2).x.s.x.l.n) (fun i3 => (TSo.mk (cond (Nat.beq i2 ((0 : Nat) + (Int.toNat x.fst))) (y1.snd.snd.s.x.l.get i3).AQ ((x.snd.rings.get i2).x.s.x.l.get i3).AQ) (cond (Nat.beq i2 ((0 : Nat) + (Int.toNat x.fst))) (y1.snd.snd.s.x.l.get i3).Value ((x.snd.rings.get i2).x.s.x.l.get i3).Value) (cond (Nat.beq i2 ((0 : Nat) + (Int.toNat x.fst))) (y1.snd.snd.s.x.l.get i3).Left ((x.snd.rings.get i2).x.s.x.l.get i3).Left)))) (cond (Nat.beq i2 ((0 : Nat) + (Int.toNat x.fst))) y1.snd.snd.s.x.AO (x.snd.rings.get i2).x.s.x.AO))) (cond (Nat.beq i2 ((0 : Nat) + (Int.toNat x.fst))) y1.snd.snd.most (x.snd.rings.get i2).x.most) (cond (Nat.beq i2 ((0 : Nat) + (Int.toNat x.fst))) y1.snd.snd.closed (x.snd.rings.get i2).x.closed))))) x.snd.now x.snd.reads x.snd.ended))
 (.need (BQ x.fst x.snd.rings.n) <|
 (.need (((Nat.beq x.snd.rings.n x.snd.rings.n) && true) && (!(cond (Nat.beq ((0 : Nat) + (Int.toNat x.fst)) ((0 : Nat) + (Int.toNat x.fst))) false (x.snd.rings.get ((0 : Nat) + (Int.toNat x.fst))).nil))) <|
 (.call con_f1d (TRr.mk (TRc.mk (cond (Nat.beq ((0 : Nat) + (Int.toNat x.fst)) ((0 : Nat) + (Int.toNat x.fst))) y1.snd.snd.AA.tail (x.snd.rings.get ((0 : Nat) + (Int.toNat x.fst))).x.AA.tail) (Sl.mk (cond (Nat.beq ((0 : Nat) + (Int.toNat x.fst)) ((0 : Nat) + (Int.toNat x.fst))) y1.snd.snd.AA.AD.nil (x.snd.rings.get ((0 : Nat) + (Int.toNat x.fst))).x.AA.AD.nil) (cond (Nat.beq ((0 : Nat) + (Int.toNat x.fst)) ((0 : Nat) + (Int.toNat x.fst))) y1.snd.snd.AA.AD.n (x.snd.rings.get ((0 : Nat) + (Int.toNat x.fst))).x.AA.AD.n) (fun i2 => (cond (Nat.beq ((0 : Nat) + (Int.toNat x.fst)) ((0 : Nat) + (Int.toNat x.fst))) (y1.snd.snd.AA.AD.get i2) ((x.snd.rings.get ((0 : Nat) + (Int.toNat x.fst))).x.AA.AD.get i2))))) (Bx.mk (cond (Nat.beq ((0 : Nat) + (Int.toNat x.fst)) ((0 : Nat) + (Int.toNat x.fst))) y1.snd.snd.s.nil (x.snd.rings.get ((0 : Nat) + (Int.toNat x.fst))).x.s.nil) (TSs.mk (Sl.mk (cond (Nat.beq ((0 : Nat) + (Int.toNat x.fst)) ((0 : Nat) + (Int.toNat x.fst))) y1.snd.snd.s.x.l.nil (x.snd.rings.get ((0 : Nat) + (Int.toNat x.fst))).x.s.x.l.nil) (cond (Nat.beq ((0 : Nat) + (Int.toNat x.fst)) ((0 : Nat) + (Int.toNat x.fst))) y1.snd.snd.s.x.l.n (x.snd.rings.get ((0 : Nat) + (Int.toNat x.fst))).x.s.x.l.n) (fun i2 => (TSo.mk (cond (Nat.beq ((0 : Nat) + (Int.toNat x.fst)) ((0 : Nat) + (Int.toNat x.fst))) (y1.snd.snd.s.x.l.get i2).AQ ((x.snd.rings.get ((0 : Nat) + (Int.toNat x.fst))).x.s.x.l.get i2).AQ) (cond (Nat.beq ((0 : Nat) + (Int.toNat x.fst)) ((0 : Nat) + (Int.toNat x.fst))) (y1.snd.snd.s.x.l.get i2).Value ((x.snd.rings.get ((0 : Nat) + (Int.toNat x.fst))).x.s.x.l.get i2).Value) (cond (Nat.beq ((0 : Nat) + (Int.toNat x.fst)) ((0 : Nat) + (Int.toNat x.fst))) (y1.snd.snd.s.x.l.get i2).Left ((x.snd.rings.get ((0 : Nat) + (Int.toNat x.fst))).x.s.x.l.get i2).Left)))) (cond (Nat.beq ((0 : Nat) + (Int.toNat x.fst)) ((0 : Nat) + (Int.toNat x.fst))) y1.snd.snd.s.x.AO (x.snd.rings.get ((0 : Nat) + (Int.toNat x.fst))).x.s.x.AO))) (cond (Nat.beq ((0 : Nat) + (Int.toNat x.fst)) ((0 : Nat) + (Int.toNat x.fst))) y1.snd.snd.most (x.snd.rings.get ((0 : Nat) + (Int.toNat x.fst))).x.most) (cond (Nat.beq ((0 : Nat) + (Int.toNat x.fst)) ((0 : Nat) + (Int.toNat x.fst))) y1.snd.snd.closed (x.snd.rings.get ((0 : Nat) + (Int.toNat x.fst))).x.closed)) fun (y2 : R_f1d) =>
 (.need ((true && true) && ((Nat.beq x.snd.rings.n x.snd.rings.n) && (Nat.blt ((0 : Nat) + (Int.toNat x.fst)) x.snd.rings.n))) <|
 (.side ((fun v : Nat → V => v = v) (fun i3 => (cond (Nat.beq i3 ((0 : Nat) + (Int.toNat x.fst))) (V.ptr (Id.loc 28 0) List.nil) (V.Af (cond (Nat.beq i3 ((0 : Nat) + (Int.toNat x.fst))) false (x.snd.rings.get i3).nil) (V.cons (V.cons (V.int IntKind.u64 (cond (Nat.beq i3 ((0 : Nat) + (Int.toNat x.fst))) y1.snd.snd.AA.tail (x.snd.rings.get i3).x.AA.tail)) (V.cons (V.A0 36 1 (cond (Nat.beq i3 ((0 : Nat) + (Int.toNat x.fst))) y1.snd.snd.AA.AD.nil (x.snd.rings.get i3).x.AA.AD.nil) (cond (Nat.beq i3 ((0 : Nat) + (Int.toNat x.fst))) y1.snd.snd.AA.AD.n (x.snd.rings.get i3).x.AA.AD.n) (fun i4 => (V.int IntKind.u64 (cond (Nat.beq i3 ((0 : Nat) + (Int.toNat x.fst))) (y1.snd.snd.AA.AD.get i4) ((x.snd.rings.get i3).x.AA.AD.get i4))))) V.unit)) (V.cons (V.Af (cond (Nat.beq i3 ((0 : Nat) + (Int.toNat x.fst))) y1.snd.snd.s.nil (x.snd.rings.get i3).x.s.nil) (V.cons (V.A0 175 3 (cond (Nat.beq i3 ((0 : Nat) + (Int.toNat x.fst))) y1.snd.snd.s.x.l.nil (x.snd.rings.get i3).x.s.x.l.nil) (cond (Nat.beq i3 ((0 : Nat) + (Int.toNat x.fst))) y1.snd.snd.s.x.l.n (x.snd.rings.get i3).x.s.x.l.n) (fun i4 => (V.cons (V.int IntKind.u64 (cond (Nat.beq i3 ((0 : Nat) + (Int.toNat x.fst))) (y1.snd.snd.s.x.l.get i4).AQ ((x.snd.rings.get i3).x.s.x.l.get i4).AQ)) (V.cons (V.int IntKind.u64 (cond (Nat.beq i3 ((0 : Nat) + (Int.toNat x.fst))) (y1.snd.snd.s.x.l.get i4).Value ((x.snd.rings.get i3).x.s.x.l.get i4).Value)) (V.cons (V.int IntKind.i64 (cond (Nat.beq i3 ((0 : Nat) + (Int.toNat x.fst))) (y1.snd.snd.s.x.l.get i4).Left ((x.snd.rings.get i3).x.s.x.l.get i4).Left)) V.unit))))) (V.cons (V.int IntKind.i64 (cond (Nat.beq i3 ((0 : Nat) + (Int.toNat x.fst))) y1.snd.snd.s.x.AO (x.snd.rings.get i3).x.s.x.AO)) V.unit))) (V.cons (V.int IntKind.u64 (cond (Nat.beq i3 ((0 : Nat) + (Int.toNat x.fst))) y1.snd.snd.most (x.snd.rings.get i3).x.most)) (V.cons (V.bool (cond (Nat.beq i3 ((0 : Nat) + (Int.toNat x.fst))) y1.snd.snd.closed (x.snd.rings.get i3).x.closed)) V.unit)))))))) <|
 (.need ((true && true) && (Nat.beq x.snd.rings.n x.snd.rings.n)) <|
 (.need (BQ x.fst x.snd.p.AF.n) <|
 (.call con_f9 ((x.snd.p.AF.get (Int.toNat x.fst)), (TRs.mk (IntKind.u64.wrap (y2.A6 + 1)) y2.Aj y2.Bj y2.A4)) fun (y3 : R_f9) =>
 (.ite (Ae y3.snd 0)
 (.need (BQ x.fst x.snd.rings.n) <|
 (.need ((Nat.beq x.snd.rings.n x.snd.rings.n) && true) <|
 (.need ((true && true) && (Nat.beq x.snd.rings.n x.snd.rings.n)) <|
 (.ret (TFa.mk x.snd.p x.snd.threads (Sl.mk x.snd.rings.nil x.snd.rings.n (fun i4 => (Bx.mk (cond (Nat.beq i4 ((0 : Nat) + (Int.toNat x.fst))) y3.fst.nil (cond (Nat.beq i4 ((0 : Nat) + (Int.toNat x.fst))) false (cond (Nat.beq i4 ((0 : Nat) + (Int.toNat x.fst))) false (x.snd.rings.get i4).nil))) (TRr.mk (TRc.mk (cond (Nat.beq i4 ((0 : Nat) + (Int.toNat x.fst))) y3.fst.x.AA.tail (cond (Nat.beq i4 ((0 : Nat) + (Int.toNat x.fst))) (cond (Nat.beq ((0 : Nat) + (Int.toNat x.fst)) ((0 : Nat) + (Int.toNat x.fst))) y1.snd.snd.AA.tail (x.snd.rings.get ((0 : Nat) + (Int.toNat x.fst))).x.AA.tail) (cond (Nat.beq i4 ((0 : Nat) + (Int.toNat x.fst))) y1.snd.snd.AA.tail (x.snd.rings.get i4).x.AA.tail))) (Sl.mk (cond (Nat.beq i4 ((0 : Nat) + (Int.toNat x.fst))) y3.fst.x.AA.AD.nil (cond (Nat.beq i4 ((0 : Nat) + (Int.toNat x.fst))) (cond (Nat.beq ((0 : Nat) + (Int.toNat x.fst)) ((0 : Nat) + (Int.toNat x.fst))) y1.snd.snd.AA.AD.nil (x.snd.rings.get ((0 : Nat) + (Int.toNat x.fst))).x.AA.AD.nil) (cond (Nat.beq i4 ((0 : Nat) + (Int.toNat x.fst))) y1.snd.snd.AA.AD.nil (x.snd.rings.get i4).x.AA.AD.nil))) (cond (Nat.beq i4 ((0 : Nat) + (Int.toNat x.fst))) y3.fst.x.AA.AD.n (cond (Nat.beq i4 ((0 : Nat) + (Int.toNat x.fst))) (cond (Nat.beq ((0 : Nat) + (Int.toNat x.fst)) ((0 : Nat) + (Int.toNat x.fst))) y1.snd.snd.AA.AD.n (x.snd.rings.get ((0 : Nat) + (Int.toNat x.fst))).x.AA.AD.n) (cond (Nat.beq i4 ((0 : Nat) + (Int.toNat x.fst))) y1.snd.snd.AA.AD.n (x.snd.rings.get i4).x.AA.AD.n))) (fun i5 => (cond (Nat.beq i4 ((0 : Nat) + (Int.toNat x.fst))) (y3.fst.x.AA.AD.get i5) (cond (Nat.beq i4 ((0 : Nat) + (Int.toNat x.fst))) (cond (Nat.beq ((0 : Nat) + (Int.toNat x.fst)) ((0 : Nat) + (Int.toNat x.fst))) (y1.snd.snd.AA.AD.get i5) ((x.snd.rings.get ((0 : Nat) + (Int.toNat x.fst))).x.AA.AD.get i5)) (cond (Nat.beq i4 ((0 : Nat) + (Int.toNat x.fst))) (y1.snd.snd.AA.AD.get i5) ((x.snd.rings.get i4).x.AA.AD.get i5))))))) (Bx.mk (cond (Nat.beq i4 ((0 : Nat) + (Int.toNat x.fst))) y3.fst.x.s.nil (cond (Nat.beq i4 ((0 : Nat) + (Int.toNat x.fst))) (cond (Nat.beq ((0 : Nat) + (Int.toNat x.fst)) ((0 : Nat) + (Int.toNat x.fst))) y1.snd.snd.s.nil (x.snd.rings.get ((0 : Nat) + (Int.toNat x.fst))).x.s.nil) (cond (Nat.beq i4 ((0 : Nat) + (Int.toNat x.fst))) y1.snd.snd.s.nil (x.snd.rings.get i4).x.s.nil))) (TSs.mk (Sl.mk (cond (Nat.beq i4 ((0 : Nat) + (Int.toNat x.fst))) y3.fst.x.s.x.l.nil (cond (Nat.beq i4 ((0 : Nat) + (Int.toNat x.fst))) (cond (Nat.beq ((0 : Nat) + (Int.toNat x.fst)) ((0 : Nat) + (Int.toNat x.fst))) y1.snd.snd.s.x.l.nil (x.snd.rings.get ((0 : Nat) + (Int.toNat x.fst))).x.s.x.l.nil) (cond (Nat.beq i4 ((0 : Nat) + (Int.toNat x.fst))) y1.snd.snd.s.x.l.nil (x.snd.rings.get i4).x.s.x.l.nil))) (cond (Nat.beq i4 ((0 : Nat) + (Int.toNat x.fst))) y3.fst.x.s.x.l.n (cond (Nat.beq i4 ((0 : Nat) + (Int.toNat x.fst))) (cond (Nat.beq ((0 : Nat) + (Int.toNat x.fst)) ((0 : Nat) + (Int.toNat x.fst))) y1.snd.snd.s.x.l.n (x.snd.rings.get ((0 : Nat) + (Int.toNat x.fst))).x.s.x.l.n) (cond (Nat.beq i4 ((0 : Nat) + (Int.toNat x.fst))) y1.snd.snd.s.x.l.n (x.snd.rings.get i4).x.s.x.l.n))) (fun i5 => (TSo.mk (cond (Nat.beq i4 ((0 : Nat) + (Int.toNat x.fst))) (y3.fst.x.s.x.l.get i5).AQ (cond (Nat.beq i4 ((0 : Nat) + (Int.toNat x.fst))) (cond (Nat.beq ((0 : Nat) + (Int.toNat x.fst)) ((0 : Nat) + (Int.toNat x.fst))) (y1.snd.snd.s.x.l.get i5).AQ ((x.snd.rings.get ((0 : Nat) + (Int.toNat x.fst))).x.s.x.l.get i5).AQ) (cond (Nat.beq i4 ((0 : Nat) + (Int.toNat x.fst))) (y1.snd.snd.s.x.l.get i5).AQ ((x.snd.rings.get i4).x.s.x.l.get i5).AQ))) (cond (Nat.beq i4 ((0 : Nat) + (Int.toNat x.fst))) (y3.fst.x.s.x.l.get i5).Value (cond (Nat.beq i4 ((0 : Nat) + (Int.toNat x.fst))) (cond (Nat.beq ((0 : Nat) + (Int.toNat x.fst)) ((0 : Nat) + (Int.toNat x.fst))) (y1.snd.snd.s.x.l.get i5).Value ((x.snd.rings.get ((0 : Nat) + (Int.toNat x.fst))).x.s.x.l.get i5).Value) (cond (Nat.beq i4 ((0 : Nat) + (Int.toNat x.fst))) (y1.snd.snd.s.x.l.get i5).Value ((x.snd.rings.get i4).x.s.x.l.get i5).Value))) (cond (Nat.beq i4 ((0 : Nat) + (Int.toNat x.fst))) (y3.fst.x.s.x.l.get i5).Left (cond (Nat.beq i4 ((0 : Nat) + (Int.toNat x.fst))) (cond (Nat.beq ((0 : Nat) + (Int.toNat x.fst)) ((0 : Nat) + (Int.toNat x.fst))) (y1.snd.snd.s.x.l.get i5).Left ((x.snd.rings.get ((0 : Nat) + (Int.toNat x.fst))).x.s.x.l.get i5).Left) (cond (Nat.beq i4 ((0 : Nat) + (Int.toNat x.fst))) (y1.snd.snd.s.x.l.get i5).Left ((x.snd.rings.get i4).x.s.x.l.get i5).Left)))))) (cond (Nat.beq i4 ((0 : Nat) + (Int.toNat x.fst))) y3.fst.x.s.x.AO (cond (Nat.beq i4 ((0 : Nat) + (Int.toNat x.fst))) (cond (Nat.beq ((0 : Nat) + (Int.toNat x.fst)) ((0 : Nat) + (Int.toNat x.fst))) y1.snd.snd.s.x.AO (x.snd.rings.get ((0 : Nat) + (Int.toNat x.fst))).x.s.x.AO) (cond (Nat.beq i4 ((0 : Nat) + (Int.toNat x.fst))) y1.snd.snd.s.x.AO (x.snd.rings.get i4).x.s.x.AO))))) (cond (Nat.beq i4 ((0 : Nat) + (Int.toNat x.fst))) y3.fst.x.most (cond (Nat.beq i4 ((0 : Nat) + (Int.toNat x.fst))) (cond (Nat.beq ((0 : Nat) + (Int.toNat x.fst)) ((0 : Nat) + (Int.toNat x.fst))) y1.snd.snd.most (x.snd.rings.get ((0 : Nat) + (Int.toNat x.fst))).x.most) (cond (Nat.beq i4 ((0 : Nat) + (Int.toNat x.fst))) y1.snd.snd.most (x.snd.rings.get i4).x.most))) (cond (Nat.beq i4 ((0 : Nat) + (Int.toNat x.fst))) y3.fst.x.closed (cond (Nat.beq i4 ((0 : Nat) + (Int.toNat x.fst))) (cond (Nat.beq ((0 : Nat) + (Int.toNat x.fst)) ((0 : Nat) + (Int.toNat x.fst))) y1.snd.snd.closed (x.snd.rings.get ((0 : Nat) + (Int.toNat x.fst))).x.closed) (cond (Nat.beq i4 ((0 : Nat) + (Int.toNat x.fst))) y1.snd.snd.closed (x.snd.rings.get i4).x.closed))))))) x.snd.now x.snd.reads x.snd.ended)))))
 (.ret (TFa.mk x.snd.p x.snd.threads (Sl.mk x.snd.rings.nil x.snd.rings.n (fun i4 => (Bx.mk (cond (Nat.beq i4 ((0 : Nat) + (Int.toNat x.fst))) false (cond (Nat.beq i4 ((0 : Nat) + (Int.toNat x.fst))) false (x.snd.rings.get i4).nil)) (TRr.mk (TRc.mk (cond (Nat.beq i4 ((0 : Nat) + (Int.toNat x.fst))) (cond (Nat.beq ((0 : Nat) + (Int.toNat x.fst)) ((0 : Nat) + (Int.toNat x.fst))) y1.snd.snd.AA.tail (x.snd.rings.get ((0 : Nat) + (Int.toNat x.fst))).x.AA.tail) (cond (Nat.beq i4 ((0 : Nat) + (Int.toNat x.fst))) y1.snd.snd.AA.tail (x.snd.rings.get i4).x.AA.tail)) (Sl.mk (cond (Nat.beq i4 ((0 : Nat) + (Int.toNat x.fst))) (cond (Nat.beq ((0 : Nat) + (Int.toNat x.fst)) ((0 : Nat) + (Int.toNat x.fst))) y1.snd.snd.AA.AD.nil (x.snd.rings.get ((0 : Nat) + (Int.toNat x.fst))).x.AA.AD.nil) (cond (Nat.beq i4 ((0 : Nat) + (Int.toNat x.fst))) y1.snd.snd.AA.AD.nil (x.snd.rings.get i4).x.AA.AD.nil)) (cond (Nat.beq i4 ((0 : Nat) + (Int.toNat x.fst))) (cond (Nat.beq ((0 : Nat) + (Int.toNat x.fst)) ((0 : Nat) + (Int.toNat x.fst))) y1.snd.snd.AA.AD.n (x.snd.rings.get ((0 : Nat) + (Int.toNat x.fst))).x.AA.AD.n) (cond (Nat.beq i4 ((0 : Nat) + (Int.toNat x.fst))) y1.snd.snd.AA.AD.n (x.snd.rings.get i4).x.AA.AD.n)) (fun i5 => (cond (Nat.beq i4 ((0 : Nat) + (Int.toNat x.fst))) (cond (Nat.beq ((0 : Nat) + (Int.toNat x.fst)) ((0 : Nat) + (Int.toNat x.fst))) (y1.snd.snd.AA.AD.get i5) ((x.snd.rings.get ((0 : Nat) + (Int.toNat x.fst))).x.AA.AD.get i5)) (cond (Nat.beq i4 ((0 : Nat) + (Int.toNat x.fst))) (y1.snd.snd.AA.AD.get i5) ((x.snd.rings.get i4).x.AA.AD.get i5)))))) (Bx.mk (cond (Nat.beq i4 ((0 : Nat) + (Int.toNat x.fst))) (cond (Nat.beq ((0 : Nat) + (Int.toNat x.fst)) ((0 : Nat) + (Int.toNat x.fst))) y1.snd.snd.s.nil (x.snd.rings.get ((0 : Nat) + (Int.toNat x.fst))).x.s.nil) (cond (Nat.beq i4 ((0 : Nat) + (Int.toNat x.fst))) y1.snd.snd.s.nil (x.snd.rings.get i4).x.s.nil)) (TSs.mk (Sl.mk (cond (Nat.beq i4 ((0 : Nat) + (Int.toNat x.fst))) (cond (Nat.beq ((0 : Nat) + (Int.toNat x.fst)) ((0 : Nat) + (Int.toNat x.fst))) y1.snd.snd.s.x.l.nil (x.snd.rings.get ((0 : Nat) + (Int.toNat x.fst))).x.s.x.l.nil) (cond (Nat.beq i4 ((0 : Nat) + (Int.toNat x.fst))) y1.snd.snd.s.x.l.nil (x.snd.rings.get i4).x.s.x.l.nil)) (cond (Nat.beq i4 ((0 : Nat) + (Int.toNat x.fst))) (cond (Nat.beq ((0 : Nat) + (Int.toNat x.fst)) ((0 : Nat) + (Int.toNat x.fst))) y1.snd.snd.s.x.l.n (x.snd.rings.get ((0 : Nat) + (Int.toNat x.fst))).x.s.x.l.n) (cond (Nat.beq i4 ((0 : Nat) + (Int.toNat x.fst))) y1.snd.snd.s.x.l.n (x.snd.rings.get i4).x.s.x.l.n)) (fun i5 => (TSo.mk (cond (Nat.beq i4 ((0 : Nat) + (Int.toNat x.fst))) (cond (Nat.beq ((0 : Nat) + (Int.toNat x.fst)) ((0 : Nat) + (Int.toNat x.fst))) (y1.snd.snd.s.x.l.get i5).AQ ((x.snd.rings.get ((0 : Nat) + (Int.toNat x.fst))).x.s.x.l.get i5).AQ) (cond (Nat.beq i4 ((0 : Nat) + (Int.toNat x.fst))) (y1.snd.snd.s.x.l.get i5).AQ ((x.snd.rings.get i4).x.s.x.l.get i5).AQ)) (cond (Nat.beq i4 ((0 : Nat) + (Int.toNat x.fst))) (cond (Nat.beq ((0 : Nat) + (Int.toNat x.fst)) ((0 : Nat) + (Int.toNat x.fst))) (y1.snd.snd.s.x.l.get i5).Value ((x.snd.rings.get ((0 : Nat) + (Int.toNat x.fst))).x.s.x.l.get i5).Value) (cond (Nat.beq i4 ((0 : Nat) + (Int.toNat x.fst))) (y1.snd.snd.s.x.l.get i5).Value ((x.snd.rings.get i4).x.s.x.l.get i5).Value)) (cond (Nat.beq i4 ((0 : Nat) + (Int.toNat x.fst))) (cond (Nat.beq ((0 : Nat) + (Int.toNat x.fst)) ((0 : Nat) + (Int.toNat x.fst))) (y1.snd.snd.s.x.l.get i5).Left ((x.snd.rings.get ((0 : Nat) + (Int.toNat x.fst))).x.s.x.l.get i5).Left) (cond (Nat.beq i4 ((0 : Nat) + (Int.toNat x.fst))) (y1.snd.snd.s.x.l.get i5).Left ((x.snd.rings.get i4).x.s.x.l.get i5).Left))))) (cond (Nat.beq i4 ((0 : Nat) + (Int.toNat x.fst))) (cond (Nat.beq ((0 : Nat) + (Int.toNat x.fst)) ((0 : Nat) + (Int.toNat x.fst))) y1.snd.snd.s.x.AO (x.snd.rings.get ((0 : Nat) + (Int.toNat x.fst))).x.s.x.AO) (cond (Nat.beq i4 ((0 : Nat) + (Int.toNat x.fst))) y1.snd.snd.s.x.AO (x.snd.rings.get i4).x.s.x.AO)))) (cond (Nat.beq i4 ((0 : Nat) + (Int.toNat x.fst))) (cond (Nat.beq ((0 : Nat) + (Int.toNat x.fst)) ((0 : Nat) + (Int.toNat x.fst))) y1.snd.snd.most (x.snd.rings.get ((0 : Nat) + (Int.toNat x.fst))).x.most) (cond (Nat.beq i4 ((0 : Nat) + (Int.toNat x.fst))) y1.snd.snd.most (x.snd.rings.get i4).x.most)) (cond (Nat.beq i4 ((0 : Nat) + (Int.toNat x.fst))) (cond (Nat.beq ((0 : Nat) + (Int.toNat x.fst)) ((0 : Nat) + (Int.toNat x.fst))) y1.snd.snd.closed (x.snd.rings.get ((0 : Nat) + (Int.toNat x.fst))).x.closed) (cond (Nat.beq i4 ((0 : Nat) + (Int.toNat x.fst))) y1.snd.snd.closed (x.snd.rings.get i4).x.closed)))))) x.snd.now x.snd.reads x.snd.ended))))))))))))))))))
theorem sd_f22 (x : X_f22) : (tt_f22 x).AJ :=
 (TT.sN (TT.sN (TT.sC fun _ => (TT.sN (TT.sS rfl (TT.sN (TT.sI TT.sR (TT.sN (TT.sN (TT.sC fun _ => (TT.sN (TT.sS rfl (TT.sN (TT.sN (TT.sC fun _ => (TT.sI (TT.sN (TT.sN (TT.sN TT.sR))) TT.sR))))))))))))))))
def D_f22 : AS X_f22 R_f22 := .of tt_f22
def con_f22 : BN Tryz.prog :=
 CY 118 J_f22 S_f22 D_f22 2 1 [.any, .any] (lk mxk lbn sd_f22)
abbrev X_f2g : Type := Int × Int × TSs
abbrev R_f2g : Type := Int × TSs
def J_f2g : BT Tryz.prog :=
 Bg Tryz.prog Tryz.f166 43 [] [(8, [.close (.loc 14 0)]), (10, [.close (.loc 14 0)]), (11, [.close (.loc 14 0)])] [(5, [.HR (.par 0) [.Bk 0 0] 14])] [.close (.loc 14 0)] [.any] [sh_TSs] [con_fq, con_f2a, con_f2o] R_f2g [(0, [⟨.loc 14 0, .par 0, [.Bk 0 0], none, none⟩])] fun y => [(V.int .i64) y.1, e_TSs y.2]
def S_f2g : AR :=
 Aq Tryz.f166 3 1 X_f2g (fun x => [(V.ptr (.par 0) []), (V.int .u64) x.1, (V.int .u64) x.2.1, e_TSs x.2.2]) fun l => (dI (at_ l 1), dI (at_ l 2), d_TSs (at_ l 3))
def tt_f2g (x : X_f2g) : TT Tryz.prog R_f2g :=
 (.ite (B6 4611686018427387904 x.fst)
 (.ret (1, x.snd.snd))
 (.call con_fq (x.fst, ((TSs_L0.mk (Ln.mk x.snd.snd.l.nil x.snd.snd.l.n) x.snd.snd.AO), (Ar.mk x.snd.snd.l.n x.snd.snd.l.get))) fun (y1 : R_fq) =>
 (.need ((Nat.beq x.snd.snd.l.n y1.snd) && true) <|
 (.call con_f2a x.fst fun (y2 : R_f2a) =>
 (.ite (B8 (x.snd.snd.l.get y1.fst).AQ y2)
 (.need ((true && true) && (Nat.beq x.snd.snd.l.n x.snd.snd.l.n)) <|
 (.ret (8, x.snd.snd)))
 (.need ((Nat.beq x.snd.snd.l.n y1.snd) && true) <|
 (.call con_f2a x.fst fun (y3 : R_f2a) =>
 (.ite (B8 y3 (x.snd.snd.l.get y1.fst).AQ)
 (.need ((true && true) && (Nat.beq x.snd.snd.l.n x.snd.snd.l.n)) <|
 (.ret (11, x.snd.snd)))
 (.call con_f2o x.fst fun (y4 : R_f2o) =>
 (.need (B6 0 x.snd.snd.AO) <|
 (.need ((Nat.beq x.snd.snd.l.n y1.snd) && true) <|
 (.need ((true && true) && (Nat.beq x.snd.snd.l.n x.snd.snd.l.n)) <|
 (.ret (0, (TSs.mk (Sl.mk x.snd.snd.l.nil x.snd.snd.l.n (fun i5 => (TSo.mk (cond (Nat.beq i5 y1.fst) y4 (x.snd.snd.l.get i5).AQ) (cond (Nat.beq i5 y1.fst) x.snd.fst (x.snd.snd.l.get i5).Value) (cond (Nat.beq i5 y1.fst) (IntKind.i64.wrap ((shl IntKind.i64 1 x.snd.snd.AO) - 1)) (x.snd.snd.l.get i5).Left)))) x.snd.snd.AO)))))))))))))))
theorem sd_f2g (x : X_f2g) : (tt_f2g x).AJ :=
 (TT.sI TT.sR (TT.sC fun _ => (TT.sN (TT.sC fun _ => (TT.sI (TT.sN TT.sR) (TT.sN (TT.sC fun _ => (TT.sI (TT.sN TT.sR) (TT.sC fun _ => (TT.sN (TT.sN (TT.sN TT.sR))))))))))))
def D_f2g : AS X_f2g R_f2g := .of tt_f2g
def con_f2g : BN Tryz.prog :=
 CY 166 J_f2g S_f2g D_f2g 3 1 [.any, .any, .any] (lk mxk lbn sd_f2g)
abbrev X_f26 : Type := Int × Int × TRr
abbrev R_f26 : Type := Int × TRr
def J_f26 : BT Tryz.prog :=
 Bg Tryz.prog Tryz.f119 25 [] [] [] [.close (.loc 21 0)] [.any] [sh_TRr] [con_f2g] R_f26 [] fun y => [(V.int .i64) y.1, e_TRr y.2]
def S_f26 : AR :=
 Aq Tryz.f119 3 1 X_f26 (fun x => [(V.ptr (.par 0) []), (V.int .u64) x.1, (V.int .u64) x.2.1, e_TRr x.2.2]) fun l => (dI (at_ l 1), dI (at_ l 2), d_TRr (at_ l 3))
def tt_f26 (x : X_f26) : TT Tryz.prog R_f26 :=
 (.ite (B6 x.snd.snd.AA.tail x.fst)
 (.ret (11, x.snd.snd))
 (.need (true && (!x.snd.snd.s.nil)) <|
 (.call con_f2g (x.fst, (x.snd.fst, x.snd.snd.s.x)) fun (y1 : R_f2g) =>
 (.ret (y1.fst, (TRr.mk x.snd.snd.AA (Bx.mk false y1.snd) x.snd.snd.most x.snd.snd.closed))))))
theorem sd_f26 (x : X_f26) : (tt_f26 x).AJ :=
 (TT.sI TT.sR (TT.sN (TT.sC fun _ => TT.sR)))
def D_f26 : AS X_f26 R_f26 := .of tt_f26
def con_f26 : BN Tryz.prog :=
 CY 119 J_f26 S_f26 D_f26 3 1 [.any, .any, .any] (lk mxk lbn sd_f26)
abbrev X_f16 : Type := Int × TRr
abbrev R_f16 : Type := Int × Int × TRr
def J_f16 : BT Tryz.prog :=
 Bg Tryz.prog Tryz.f120 49 [] [(10, [.close (.loc 34 0)])] [] [.close (.loc 44 0), .close (.loc 34 0)] [.any, .any] [sh_TRr] [con_f13, con_ft] R_f16 [] fun y => [V.CR (V.cons ((V.int .u64) y.1) (V.cons ((V.int .i64) y.2.1) (V.unit))), e_TRr y.2.2]
def S_f16 : AR :=
 Aq Tryz.f120 2 1 X_f16 (fun x => [(V.ptr (.par 0) []), (V.int .i64) x.1, e_TRr x.2]) fun l => (dI (at_ l 1), d_TRr (at_ l 2))
structure X_f16_9 where
 NC : Int
 Ad : TRr
def S_f16_9 : AR :=
 Ai Tryz.f120 9 (an [0, 1]) [sh_TRr] [] X_f16_9 (fun x => [(V.ptr (.par 0) []), (V.int .i64) x.NC, e_TRr x.Ad]) fun l => ⟨dI (at_ l 1), d_TRr (at_ l 2)⟩
def tt_f16_9 (x : X_f16_9) : TT Tryz.prog R_f16 :=
 (.need (BQ x.NC x.Ad.AA.AD.n) <|
 (.need ((Nat.beq x.Ad.AA.AD.n x.Ad.AA.AD.n) && true) <|
 (.need (BQ x.NC x.Ad.AA.AD.n) <|
 (.need ((Nat.beq x.Ad.AA.AD.n x.Ad.AA.AD.n) && true) <|
 (.need ((true && true) && (Nat.beq x.Ad.AA.AD.n x.Ad.AA.AD.n)) <|
 (.need (BQ x.NC x.Ad.AA.AD.n) <|
 (.need ((Nat.beq x.Ad.AA.AD.n x.Ad.AA.AD.n) && true) <|
 (.need ((true && true) && (Nat.beq x.Ad.AA.AD.n x.Ad.AA.AD.n)) <|
 (.ret ((IntKind.u64.wrap ((cond (Nat.beq ((0 : Nat) + (Int.toNat x.NC)) ((0 : Nat) + (Int.toNat x.NC))) (IntKind.u64.wrap ((x.Ad.AA.AD.get ((0 : Nat) + (Int.toNat x.NC))) + 1)) (x.Ad.AA.AD.get ((0 : Nat) + (Int.toNat x.NC)))) - 1)), (0, (TRr.mk (TRc.mk x.Ad.AA.tail (Sl.mk x.Ad.AA.AD.nil x.Ad.AA.AD.n (fun i1 => (cond (Nat.beq i1 ((0 : Nat) + (Int.toNat x.NC))) (IntKind.u64.wrap ((x.Ad.AA.AD.get ((0 : Nat) + (Int.toNat x.NC))) + 1)) (x.Ad.AA.AD.get i1))))) x.Ad.s x.Ad.most x.Ad.closed))))))))))))
theorem sd_f16_9 (x : X_f16_9) : (tt_f16_9 x).AJ :=
 (TT.sN (TT.sN (TT.sN (TT.sN (TT.sN (TT.sN (TT.sN (TT.sN TT.sR))))))))
def D_f16_9 : AS X_f16_9 R_f16 := .of tt_f16_9
theorem ok_f16_9 : AX J_f16 S_f16_9 D_f16_9 :=
 lk mxk lbn sd_f16_9
def tt_f16 (x : X_f16) : TT Tryz.prog R_f16 :=
 (.call con_ft (x.fst, x.snd.AA) fun (y1 : R_ft) =>
 (.ite (!y1)
 (.ret (0, (1, x.snd)))
 (.call con_f13 x fun (y2 : R_f13) =>
 (.ite y2
 (.ite x.snd.closed
 (.ret (0, (10, x.snd)))
 (.call con_f13 x fun (y3 : R_f13) =>
 (.ite y3
 (.ret (0, (9, x.snd)))
 (.Ab S_f16_9 D_f16_9 (X_f16_9.mk x.fst x.snd)))))
 (.call con_f13 x fun (y3 : R_f13) =>
 (.ite y3
 (.ret (0, (9, x.snd)))
 (.Ab S_f16_9 D_f16_9 (X_f16_9.mk x.fst x.snd))))))))
theorem sd_f16 (x : X_f16) : (tt_f16 x).AJ :=
 (TT.sC fun _ => (TT.sI TT.sR (TT.sC fun _ => (TT.sI (TT.sI TT.sR (TT.sC fun _ => (TT.sI TT.sR TT.sJ))) (TT.sC fun _ => (TT.sI TT.sR TT.sJ))))))
def D_f16 : AS X_f16 R_f16 := .of tt_f16
def con_f16 : BN Tryz.prog :=
 CY 120 J_f16 S_f16 D_f16 2 1 [.any, .any] (lk mxk (lbc ok_f16_9 rfl lbn) sd_f16)
abbrev X_f2h : Type := Int × Int × TSs
abbrev R_f2h : Type := Int × Int × TSs
def J_f2h : BT Tryz.prog :=
 Bg Tryz.prog Tryz.f167 52 [] [(9, [.close (.loc 44 0), .close (.loc 20 0)])] [(4, [.HR (.par 0) [.Bk 0 0] 20])] [.close (.loc 44 0), .close (.loc 20 0)] [.any, .any] [sh_TSs] [con_fl, con_fq, con_f2a] R_f2h [(0, [⟨.loc 20 0, .par 0, [.Bk 0 0], none, none⟩])] fun y => [V.CR (V.cons ((V.int .u64) y.1) (V.cons ((V.int .i64) y.2.1) (V.unit))), e_TSs y.2.2]
def S_f2h : AR :=
 Aq Tryz.f167 3 1 X_f2h (fun x => [(V.ptr (.par 0) []), (V.int .i64) x.1, (V.int .u64) x.2.1, e_TSs x.2.2]) fun l => (dI (at_ l 1), dI (at_ l 2), d_TSs (at_ l 3))
def tt_f2h (x : X_f2h) : TT Tryz.prog R_f2h :=
 (.call con_fl x fun (y1 : R_fl) =>
 (.ite (!(Ae y1 0))
 (.ret (0, (y1, x.snd.snd)))
 (.call con_fq (x.snd.fst, ((TSs_L0.mk (Ln.mk x.snd.snd.l.nil x.snd.snd.l.n) x.snd.snd.AO), (Ar.mk x.snd.snd.l.n x.snd.snd.l.get))) fun (y2 : R_fq) =>
 (.need ((Nat.beq x.snd.snd.l.n y2.snd) && true) <|
 (.need ((Nat.beq x.snd.snd.l.n y2.snd) && true) <|
 (.need (B6 0 x.fst) <|
 (.need ((Nat.beq x.snd.snd.l.n y2.snd) && true) <|
 (.need ((Nat.beq x.snd.snd.l.n y2.snd) && true) <|
 (.ite (Ae (cond (Nat.beq y2.fst y2.fst) (Vm.bits .andNot IntKind.i64 (x.snd.snd.l.get y2.fst).Left (shl IntKind.i64 1 x.fst)) (x.snd.snd.l.get y2.fst).Left) 0)
 (.call con_f2a (IntKind.u64.wrap (x.snd.fst + (IntKind.u64.wrap ((x.snd.snd.l.n : Nat) : Int)))) fun (y3 : R_f2a) =>
 (.need ((Nat.beq x.snd.snd.l.n y2.snd) && true) <|
 (.need ((true && true) && (Nat.beq x.snd.snd.l.n x.snd.snd.l.n)) <|
 (.ret ((x.snd.snd.l.get y2.fst).Value, (0, (TSs.mk (Sl.mk x.snd.snd.l.nil x.snd.snd.l.n (fun i4 => (TSo.mk (cond (Nat.beq i4 y2.fst) y3 (cond (Nat.beq i4 y2.fst) (x.snd.snd.l.get y2.fst).AQ (x.snd.snd.l.get i4).AQ)) (cond (Nat.beq i4 y2.fst) (0 : Int) (cond (Nat.beq i4 y2.fst) (x.snd.snd.l.get y2.fst).Value (x.snd.snd.l.get i4).Value)) (cond (Nat.beq i4 y2.fst) (0 : Int) (cond (Nat.beq i4 y2.fst) (Vm.bits .andNot IntKind.i64 (x.snd.snd.l.get y2.fst).Left (shl IntKind.i64 1 x.fst)) (x.snd.snd.l.get i4).Left))))) x.snd.snd.AO)))))))
 (.need ((true && true) && (Nat.beq x.snd.snd.l.n x.snd.snd.l.n)) <|
 (.ret ((x.snd.snd.l.get y2.fst).Value, (0, (TSs.mk (Sl.mk x.snd.snd.l.nil x.snd.snd.l.n (fun i3 => (TSo.mk (cond (Nat.beq i3 y2.fst) (x.snd.snd.l.get y2.fst).AQ (x.snd.snd.l.get i3).AQ) (cond (Nat.beq i3 y2.fst) (x.snd.snd.l.get y2.fst).Value (x.snd.snd.l.get i3).Value) (cond (Nat.beq i3 y2.fst) (Vm.bits .andNot IntKind.i64 (x.snd.snd.l.get y2.fst).Left (shl IntKind.i64 1 x.fst)) (x.snd.snd.l.get i3).Left)))) x.snd.snd.AO))))))))))))))
theorem sd_f2h (x : X_f2h) : (tt_f2h x).AJ :=
 (TT.sC fun _ => (TT.sI TT.sR (TT.sC fun _ => (TT.sN (TT.sN (TT.sN (TT.sN (TT.sN (TT.sI (TT.sC fun _ => (TT.sN (TT.sN TT.sR))) (TT.sN TT.sR))))))))))
def D_f2h : AS X_f2h R_f2h := .of tt_f2h
def con_f2h : BN Tryz.prog :=
 CY 167 J_f2h S_f2h D_f2h 3 1 [.any, .any, .any] (lk mxk lbn sd_f2h)
abbrev X_f27 : Type := Int × Int × TRr
abbrev R_f27 : Type := Int × Int × TRr
def J_f27 : BT Tryz.prog :=
 Bg Tryz.prog Tryz.f121 38 [] [(6, [.close (.loc 24 0)]), (7, [.close (.loc 24 0)])] [] [.close (.loc 32 0), .close (.loc 24 0)] [.any, .any] [sh_TRr] [con_ft, con_f2h] R_f27 [] fun y => [V.CR (V.cons ((V.int .u64) y.1) (V.cons ((V.int .i64) y.2.1) (V.unit))), e_TRr y.2.2]
def S_f27 : AR :=
 Aq Tryz.f121 3 1 X_f27 (fun x => [(V.ptr (.par 0) []), (V.int .i64) x.1, (V.int .u64) x.2.1, e_TRr x.2.2]) fun l => (dI (at_ l 1), dI (at_ l 2), d_TRr (at_ l 3))
def tt_f27 (x : X_f27) : TT Tryz.prog R_f27 :=
 (.call con_ft (x.fst, x.snd.snd.AA) fun (y1 : R_ft) =>
 (.ite (!y1)
 (.ret (0, (1, x.snd.snd)))
 (.need (BQ x.fst x.snd.snd.AA.AD.n) <|
 (.need ((Nat.beq x.snd.snd.AA.AD.n x.snd.snd.AA.AD.n) && true) <|
 (.ite (B6 (x.snd.snd.AA.AD.get ((0 : Nat) + (Int.toNat x.fst))) x.snd.fst)
 (.need ((true && true) && (Nat.beq x.snd.snd.AA.AD.n x.snd.snd.AA.AD.n)) <|
 (.ret (0, (11, x.snd.snd))))
 (.need ((true && true) && (Nat.beq x.snd.snd.AA.AD.n x.snd.snd.AA.AD.n)) <|
 (.need (true && (!x.snd.snd.s.nil)) <|
 (.call con_f2h (x.fst, (x.snd.fst, x.snd.snd.s.x)) fun (y2 : R_f2h) =>
 (.ret (y2.fst, (y2.snd.fst, (TRr.mk x.snd.snd.AA (Bx.mk false y2.snd.snd) x.snd.snd.most x.snd.snd.closed))))))))))))
theorem sd_f27 (x : X_f27) : (tt_f27 x).AJ :=
 (TT.sC fun _ => (TT.sI TT.sR (TT.sN (TT.sN (TT.sI (TT.sN TT.sR) (TT.sN (TT.sN (TT.sC fun _ => TT.sR))))))))
def D_f27 : AS X_f27 R_f27 := .of tt_f27
def con_f27 : BN Tryz.prog :=
 CY 121 J_f27 S_f27 D_f27 3 1 [.any, .any, .any] (lk mxk lbn sd_f27)
abbrev X_f2i : Type := TRr
abbrev R_f2i : Type := Int × TRr
def J_f2i : BT Tryz.prog :=
 Bg Tryz.prog Tryz.f122 8 [] [] [] [] [.any] [sh_TRr] [] R_f2i [] fun y => [(V.int .i64) y.1, e_TRr y.2]
def S_f2i : AR :=
 Aq Tryz.f122 1 1 X_f2i (fun x => [(V.ptr (.par 0) []), e_TRr x]) fun l => (d_TRr (at_ l 1))
def tt_f2i (x : X_f2i) : TT Tryz.prog R_f2i :=
 (.ret (0, (TRr.mk x.AA x.s x.most true)))
theorem sd_f2i (x : X_f2i) : (tt_f2i x).AJ :=
 TT.sR
def D_f2i : AS X_f2i R_f2i := .of tt_f2i
def con_f2i : BN Tryz.prog :=
 CY 122 J_f2i S_f2i D_f2i 1 1 [.any] (lk mxk lbn sd_f2i)
abbrev X_fd : Type := TEv × TFa
abbrev R_fd : Type := TFa
def J_fd : BT Tryz.prog :=
 Bg Tryz.prog Tryz.f64 131 [(3, 3), (48, 1), (101, 1)] [(8, [.close (.loc 27 0), .close (.loc 23 0)]), (9, [.close (.loc 27 0), .close (.loc 23 0)]), (10, [.close (.loc 42 0), .close (.loc 38 0), .close (.loc 27 0), .close (.loc 23 0)]), (11, [.close (.loc 42 0), .close (.loc 38 0), .close (.loc 27 0), .close (.loc 23 0)]), (12, [.close (.loc 56 0), .close (.loc 52 0), .close (.loc 42 0), .close (.loc 38 0), .close (.loc 27 0), .close (.loc 23 0)]), (13, [.close (.loc 56 0), .close (.loc 52 0), .close (.loc 42 0), .close (.loc 38 0), .close (.loc 27 0), .close (.loc 23 0)]), (14, [.close (.loc 73 0), .close (.loc 69 0), .close (.loc 56 0), .close (.loc 52 0), .close (.loc 42 0), .close (.loc 38 0), .close (.loc 27 0), .close (.loc 23 0)]), (15, [.close (.loc 73 0), .close (.loc 69 0), .close (.loc 56 0), .close (.loc 52 0), .close (.loc 42 0), .close (.loc 38 0), .close (.loc 27 0), .close (.loc 23 0)]), (16, [.close (.loc 73 0), .close (.loc 69 0), .close (.loc 56 0), .close (.loc 52 0), .close (.loc 42 0), .close (.loc 38 0), .close (.loc 27 0), .close (.loc 23 0)]), (17, [.close (.loc 73 0), .close (.loc 69 0), .close (.loc 56 0), .close (.loc 52 0), .close (.loc 42 0), .close (.loc 38 0), .close (.loc 27 0), .close (.loc 23 0)]), (18, [.close (.loc 73 0), .close (.loc 69 0), .close (.loc 56 0), .close (.loc 52 0), .close (.loc 42 0), .close (.loc 38 0), .close (.loc 27 0), .close (.loc 23 0)]), (19, [.close (.loc 73 0), .close (.loc 69 0), .close (.loc 56 0), .close (.loc 52 0), .close (.loc 42 0), .close (.loc 38 0), .close (.loc 27 0), .close (.loc 23 0)]), (20, [.close (.loc 73 0), .close (.loc 69 0), .close (.loc 56 0), .close (.loc 52 0), .close (.loc 42 0), .close (.loc 38 0), .close (.loc 27 0), .close (.loc 23 0)])] [(7, [.HR (.par 0) [.Bk 2 3] 23]), (9, [.HR (.par 0) [.Bk 2 3] 38]), (11, [.HR (.par 0) [.Bk 2 3] 52]), (13, [.HR (.par 0) [.Bk 2 3] 69]), (20, [.HR (.par 0) [.Bk 1 2] 105, .HR (.par 0) [.Bk 1 2] 120])] [.close (.loc 120 0), .close (.loc 105 0), .close (.loc 73 0), .close (.loc 69 0), .close (.loc 56 0), .close (.loc 52 0), .close (.loc 42 0), .close (.loc 38 0), .close (.loc 27 0), .close (.loc 23 0)] [] [sh_TFa] [con_f15, con_f22, con_f2i, con_f26, con_f27, con_f16, con_f20] R_fd [(0, [⟨.loc 23 0, .par 0, [.Bk 2 3], none, none⟩, ⟨.loc 38 0, .par 0, [.Bk 2 3], none, none⟩, ⟨.loc 52 0, .par 0, [.Bk 2 3], none, none⟩, ⟨.loc 69 0, .par 0, [.Bk 2 3], none, none⟩, ⟨.loc 105 0, .par 0, [.Bk 1 2], none, none⟩, ⟨.loc 120 0, .par 0, [.Bk 1 2], none, none⟩]), (20, [⟨.loc 23 0, .par 0, [.Bk 2 3], none, none⟩, ⟨.loc 38 0, .par 0, [.Bk 2 3], none, none⟩, ⟨.loc 52 0, .par 0, [.Bk 2 3], none, none⟩, ⟨.loc 69 0, .par 0, [.Bk 2 3], none, none⟩, ⟨.loc 105 0, .par 0, [.Bk 1 2], none, none⟩, ⟨.loc 120 0, .par 0, [.Bk 1 2], none, none⟩])] fun y => [V.CR (V.unit), e_TFa y]
def S_fd : AR :=
 Aq Tryz.f64 2 1 X_fd (fun x => [(V.ptr (.par 0) []), e_TEv x.1, e_TFa x.2]) fun l => (d_TEv (at_ l 1), d_TFa (at_ l 2))
structure X_fd_20 where
 F6 : TEv
 v_5 : Int
 Ad : TFa
def S_fd_20 : AR :=
 Ai Tryz.f64 20 (an [0, 3, 5]) [sh_TFa] [] X_fd_20 (fun x => [(V.ptr (.par 0) []), (DO e_TEv) x.F6, (V.int .u64) x.v_5, e_TFa x.Ad]) fun l => ⟨(DP d_TEv) (at_ l 1), dI (at_ l 2), d_TFa (at_ l 3)⟩
def tt_fd_20 (x : X_fd_20) : TT Tryz.prog R_fd :=
 (.need (BQ x.F6.Thread x.Ad.p.AB.n) <|
 (.need (BQ x.F6.Thread x.Ad.threads.n) <|
 (.need ((Nat.beq x.Ad.threads.n x.Ad.threads.n) && true) <|
 (.call con_f20 ((x.Ad.p.AB.get (Int.toNat x.F6.Thread)), ((x.Ad.threads.get ((0 : Nat) + (Int.toNat x.F6.Thread))), (x.F6, x.v_5))) fun (y1 : R_f20) =>
 (.need (BQ x.F6.Thread x.Ad.threads.n) <|
 (.need ((Nat.beq x.Ad.threads.n x.Ad.threads.n) && true) <|
 (.need ((true && true) && (Nat.beq x.Ad.threads.n x.Ad.threads.n)) <|
 (.ret (TFa.mk x.Ad.p (Sl.mk x.Ad.threads.nil x.Ad.threads.n (fun i2 => (TTh.mk (cond (Nat.beq i2 ((0 : Nat) + (Int.toNat x.F6.Thread))) y1.fst.At (x.Ad.threads.get i2).At) (cond (Nat.beq i2 ((0 : Nat) + (Int.toNat x.F6.Thread))) y1.fst.Phase (x.Ad.threads.get i2).Phase) (cond (Nat.beq i2 ((0 : Nat) + (Int.toNat x.F6.Thread))) y1.fst.Ring (x.Ad.threads.get i2).Ring) (cond (Nat.beq i2 ((0 : Nat) + (Int.toNat x.F6.Thread))) y1.fst.Status (x.Ad.threads.get i2).Status) (cond (Nat.beq i2 ((0 : Nat) + (Int.toNat x.F6.Thread))) y1.fst.AG (x.Ad.threads.get i2).AG) (fun i3 => (cond (Nat.beq i2 ((0 : Nat) + (Int.toNat x.F6.Thread))) (y1.fst.Ao i3) ((x.Ad.threads.get i2).Ao i3))) (Sl.mk (cond (Nat.beq i2 ((0 : Nat) + (Int.toNat x.F6.Thread))) y1.fst.Seen.nil (x.Ad.threads.get i2).Seen.nil) (cond (Nat.beq i2 ((0 : Nat) + (Int.toNat x.F6.Thread))) y1.fst.Seen.n (x.Ad.threads.get i2).Seen.n) (fun i3 => (cond (Nat.beq i2 ((0 : Nat) + (Int.toNat x.F6.Thread))) (y1.fst.Seen.get i3) ((x.Ad.threads.get i2).Seen.get i3))))))) x.Ad.rings x.Ad.now x.Ad.reads x.Ad.ended)))))))))
theorem sd_fd_20 (x : X_fd_20) : (tt_fd_20 x).AJ :=
 (TT.sN (TT.sN (TT.sN (TT.sC fun _ => (TT.sN (TT.sN (TT.sN TT.sR)))))))
def D_fd_20 : AS X_fd_20 R_fd := .of tt_fd_20
theorem ok_fd_20 : AX J_fd S_fd_20 D_fd_20 :=
 lk mxk lbn sd_fd_20
def tt_fd (x : X_fd) : TT Tryz.prog R_fd :=
 (.call con_f15 (x.fst.Thread, x.snd) fun (y1 : R_f15) =>
 (.ite (Ae x.fst.Kind 1)
 (.call con_f22 (x.fst.Ring, x.snd) fun (y2 : R_f22) =>
 (.Ab S_fd_20 D_fd_20 (X_fd_20.mk x.fst 0 y2)))
 (.ite (Ae x.fst.Kind 2)
 (.need (BQ x.fst.Ring x.snd.rings.n) <|
 (.need (((Nat.beq x.snd.rings.n x.snd.rings.n) && true) && (!(x.snd.rings.get ((0 : Nat) + (Int.toNat x.fst.Ring))).nil)) <|
 (.call con_f26 (x.fst.AG, (y1.Value, (x.snd.rings.get ((0 : Nat) + (Int.toNat x.fst.Ring))).x)) fun (y2 : R_f26) =>
 (.need ((true && true) && ((Nat.beq x.snd.rings.n x.snd.rings.n) && (Nat.blt ((0 : Nat) + (Int.toNat x.fst.Ring)) x.snd.rings.n))) <|
 (.side ((fun v : Nat → V => v = v) (fun i3 => (cond (Nat.beq i3 ((0 : Nat) + (Int.toNat x.fst.Ring))) (V.ptr (Id.loc 27 0) List.nil) (V.Af (x.snd.rings.get i3).nil (V.cons (V.cons (V.int IntKind.u64 (x.snd.rings.get i3).x.AA.tail) (V.cons (V.A0 36 1 (x.snd.rings.get i3).x.AA.AD.nil (x.snd.rings.get i3).x.AA.AD.n (fun i4 => (V.int IntKind.u64 ((x.snd.rings.get i3).x.AA.AD.get i4)))) V.unit)) (V.cons (V.Af (x.snd.rings.get i3).x.s.nil (V.cons (V.A0 175 3 (x.snd.rings.get i3).x.s.x.l.nil (x.snd.rings.get i3).x.s.x.l.n (fun i4 => (V.cons (V.int IntKind.u64 ((x.snd.rings.get i3).x.s.x.l.get i4).AQ) (V.cons (V.int IntKind.u64 ((x.snd.rings.get i3).x.s.x.l.get i4).Value) (V.cons (V.int IntKind.i64 ((x.snd.rings.get i3).x.s.x.l.get i4).Left) V.unit))))) (V.cons (V.int IntKind.i64 (x.snd.rings.get i3).x.s.x.AO) V.unit))) (V.cons (V.int IntKind.u64 (x.snd.rings.get i3).x.most) (V.cons (V.bool (x.snd.rings.get i3).x.closed) V.unit)))))))) <|
 (.need ((true && true) && (Nat.beq x.snd.rings.n x.snd.rings.n)) <|
 (.Ab S_fd_20 D_fd_20 (X_fd_20.mk x.fst 0 (TFa.mk x.snd.p x.snd.threads (Sl.mk x.snd.rings.nil x.snd.rings.n (fun i3 => (Bx.mk (cond (Nat.beq i3 ((0 : Nat) + (Int.toNat x.fst.Ring))) false (x.snd.rings.get i3).nil) (TRr.mk (TRc.mk (cond (Nat.beq i3 ((0 : Nat) + (Int.toNat x.fst.Ring))) y2.snd.AA.tail (x.snd.rings.get i3).x.AA.tail) (Sl.mk (cond (Nat.beq i3 ((0 : Nat) + (Int.toNat x.fst.Ring))) y2.snd.AA.AD.nil (x.snd.rings.get i3).x.AA.AD.nil) (cond (Nat.beq i3 ((0 : Nat) + (Int.toNat x.fst.Ring))) y2.snd.AA.AD.n (x.snd.rings.get i3).x.AA.AD.n) (fun i4 => (cond (Nat.beq i3 ((0 : Nat) + (Int.toNat x.fst.Ring))) (y2.snd.AA.AD.get i4) ((x.snd.rings.get i3).x.AA.AD.get i4))))) (Bx.mk (cond (Nat.beq i3 ((0 : Nat) + (Int.toNat x.fst.Ring))) y2.snd.s.nil (x.snd.rings.get i3).x.s.nil) (TSs.mk (Sl.mk (cond (Nat.beq i3 ((0 : Nat) + (Int.toNat x.fst.Ring))) y2.snd.s.x.l.nil (x.snd.rings.get i3).x.s.x.l.nil) (cond (Nat.beq i3 ((0 : Nat) + (Int.toNat x.fst.Ring))) y2.snd.s.x.l.n (x.snd.rings.get i3).x.s.x.l.n) (fun i4 => (TSo.mk (cond (Nat.beq i3 ((0 : Nat) + (Int.toNat x.fst.Ring))) (y2.snd.s.x.l.get i4).AQ ((x.snd.rings.get i3).x.s.x.l.get i4).AQ) (cond (Nat.beq i3 ((0 : Nat) + (Int.toNat x.fst.Ring))) (y2.snd.s.x.l.get i4).Value ((x.snd.rings.get i3).x.s.x.l.get i4).Value) (cond (Nat.beq i3 ((0 : Nat) + (Int.toNat x.fst.Ring))) (y2.snd.s.x.l.get i4).Left ((x.snd.rings.get i3).x.s.x.l.get i4).Left)))) (cond (Nat.beq i3 ((0 : Nat) + (Int.toNat x.fst.Ring))) y2.snd.s.x.AO (x.snd.rings.get i3).x.s.x.AO))) (cond (Nat.beq i3 ((0 : Nat) + (Int.toNat x.fst.Ring))) y2.snd.most (x.snd.rings.get i3).x.most) (cond (Nat.beq i3 ((0 : Nat) + (Int.toNat x.fst.Ring))) y2.snd.closed (x.snd.rings.get i3).x.closed))))) x.snd.now x.snd.reads x.snd.ended)))))))))
 (.ite (Ae x.fst.Kind 3)
 (.need (BQ x.fst.Ring x.snd.rings.n) <|
 (.need (((Nat.beq x.snd.rings.n x.snd.rings.n) && true) && (!(x.snd.rings.get ((0 : Nat) + (Int.toNat x.fst.Ring))).nil)) <|
 (.call con_f16 (y1.Reader, (x.snd.rings.get ((0 : Nat) + (Int.toNat x.fst.Ring))).x) fun (y2 : R_f16) =>
 (.need ((true && true) && ((Nat.beq x.snd.rings.n x.snd.rings.n) && (Nat.blt ((0 : Nat) + (Int.toNat x.fst.Ring)) x.snd.rings.n))) <|
 (.side ((fun v : Nat → V => v = v) (fun i3 => (cond (Nat.beq i3 ((0 : Nat) + (Int.toNat x.fst.Ring))) (V.ptr (Id.loc 42 0) List.nil) (V.Af (x.snd.rings.get i3).nil (V.cons (V.cons (V.int IntKind.u64 (x.snd.rings.get i3).x.AA.tail) (V.cons (V.A0 36 1 (x.snd.rings.get i3).x.AA.AD.nil (x.snd.rings.get i3).x.AA.AD.n (fun i4 => (V.int IntKind.u64 ((x.snd.rings.get i3).x.AA.AD.get i4)))) V.unit)) (V.cons (V.Af (x.snd.rings.get i3).x.s.nil (V.cons (V.A0 175 3 (x.snd.rings.get i3).x.s.x.l.nil (x.snd.rings.get i3).x.s.x.l.n (fun i4 => (V.cons (V.int IntKind.u64 ((x.snd.rings.get i3).x.s.x.l.get i4).AQ) (V.cons (V.int IntKind.u64 ((x.snd.rings.get i3).x.s.x.l.get i4).Value) (V.cons (V.int IntKind.i64 ((x.snd.rings.get i3).x.s.x.l.get i4).Left) V.unit))))) (V.cons (V.int IntKind.i64 (x.snd.rings.get i3).x.s.x.AO) V.unit))) (V.cons (V.int IntKind.u64 (x.snd.rings.get i3).x.most) (V.cons (V.bool (x.snd.rings.get i3).x.closed) V.unit)))))))) <|
 (.need ((true && true) && (Nat.beq x.snd.rings.n x.snd.rings.n)) <|
 (.Ab S_fd_20 D_fd_20 (X_fd_20.mk x.fst 0 (TFa.mk x.snd.p x.snd.threads (Sl.mk x.snd.rings.nil x.snd.rings.n (fun i3 => (Bx.mk (cond (Nat.beq i3 ((0 : Nat) + (Int.toNat x.fst.Ring))) false (x.snd.rings.get i3).nil) (TRr.mk (TRc.mk (cond (Nat.beq i3 ((0 : Nat) + (Int.toNat x.fst.Ring))) y2.snd.snd.AA.tail (x.snd.rings.get i3).x.AA.tail) (Sl.mk (cond (Nat.beq i3 ((0 : Nat) + (Int.toNat x.fst.Ring))) y2.snd.snd.AA.AD.nil (x.snd.rings.get i3).x.AA.AD.nil) (cond (Nat.beq i3 ((0 : Nat) + (Int.toNat x.fst.Ring))) y2.snd.snd.AA.AD.n (x.snd.rings.get i3).x.AA.AD.n) (fun i4 => (cond (Nat.beq i3 ((0 : Nat) + (Int.toNat x.fst.Ring))) (y2.snd.snd.AA.AD.get i4) ((x.snd.rings.get i3).x.AA.AD.get i4))))) (Bx.mk (cond (Nat.beq i3 ((0 : Nat) + (Int.toNat x.fst.Ring))) y2.snd.snd.s.nil (x.snd.rings.get i3).x.s.nil) (TSs.mk (Sl.mk (cond (Nat.beq i3 ((0 : Nat) + (Int.toNat x.fst.Ring))) y2.snd.snd.s.x.l.nil (x.snd.rings.get i3).x.s.x.l.nil) (cond (Nat.beq i3 ((0 : Nat) + (Int.toNat x.fst.Ring))) y2.snd.snd.s.x.l.n (x.snd.rings.get i3).x.s.x.l.n) (fun i4 => (TSo.mk (cond (Nat.beq i3 ((0 : Nat) + (Int.toNat x.fst.Ring))) (y2.snd.snd.s.x.l.get i4).AQ ((x.snd.rings.get i3).x.s.x.l.get i4).AQ) (cond (Nat.beq i3 ((0 : Nat) + (Int.toNat x.fst.Ring))) (y2.snd.snd.s.x.l.get i4).Value ((x.snd.rings.get i3).x.s.x.l.get i4).Value) (cond (Nat.beq i3 ((0 : Nat) + (Int.toNat x.fst.Ring))) (y2.snd.snd.s.x.l.get i4).Left ((x.snd.rings.get i3).x.s.x.l.get i4).Left)))) (cond (Nat.beq i3 ((0 : Nat) + (Int.toNat x.fst.Ring))) y2.snd.snd.s.x.AO (x.snd.rings.get i3).x.s.x.AO))) (cond (Nat.beq i3 ((0 : Nat) + (Int.toNat x.fst.Ring))) y2.snd.snd.most (x.snd.rings.get i3).x.most) (cond (Nat.beq i3 ((0 : Nat) + (Int.toNat x.fst.Ring))) y2.snd.snd.closed (x.snd.rings.get i3).x.closed))))) x.snd.now x.snd.reads x.snd.ended)))))))))
 (.ite (Ae x.fst.Kind 4)
 (.need (BQ x.fst.Ring x.snd.rings.n) <|
 (.need (((Nat.beq x.snd.rings.n x.snd.rings.n) && true) && (!(x.snd.rings.get ((0 : Nat) + (Int.toNat x.fst.Ring))).nil)) <|
 (.call con_f27 (y1.Reader, (x.fst.AG, (x.snd.rings.get ((0 : Nat) + (Int.toNat x.fst.Ring))).x)) fun (y2 : R_f27) =>
 (.need ((true && true) && ((Nat.beq x.snd.rings.n x.snd.rings.n) && (Nat.blt ((0 : Nat) + (Int.toNat x.fst.Ring)) x.snd.rings.n))) <|
 (.side ((fun v : Nat → V => v = v) (fun i3 => (cond (Nat.beq i3 ((0 : Nat) + (Int.toNat x.fst.Ring))) (V.ptr (Id.loc 56 0) List.nil) (V.Af (x.snd.rings.get i3).nil (V.cons (V.cons (V.int IntKind.u64 (x.snd.rings.get i3).x.AA.tail) (V.cons (V.A0 36 1 (x.snd.rings.get i3).x.AA.AD.nil (x.snd.rings.get i3).x.AA.AD.n (fun i4 => (V.int IntKind.u64 ((x.snd.rings.get i3).x.AA.AD.get i4)))) V.unit)) (V.cons (V.Af (x.snd.rings.get i3).x.s.nil (V.cons (V.A0 175 3 (x.snd.rings.get i3).x.s.x.l.nil (x.snd.rings.get i3).x.s.x.l.n (fun i4 => (V.cons (V.int IntKind.u64 ((x.snd.rings.get i3).x.s.x.l.get i4).AQ) (V.cons (V.int IntKind.u64 ((x.snd.rings.get i3).x.s.x.l.get i4).Value) (V.cons (V.int IntKind.i64 ((x.snd.rings.get i3).x.s.x.l.get i4).Left) V.unit))))) (V.cons (V.int IntKind.i64 (x.snd.rings.get i3).x.s.x.AO) V.unit))) (V.cons (V.int IntKind.u64 (x.snd.rings.get i3).x.most) (V.cons (V.bool (x.snd.rings.get i3).x.closed) V.unit)))))))) <|
 (.need ((true && true) && (Nat.beq x.snd.rings.n x.snd.rings.n)) <|
 (.Ab S_fd_20 D_fd_20 (X_fd_20.mk x.fst y2.fst (TFa.mk x.snd.p x.snd.threads (Sl.mk x.snd.rings.nil x.snd.rings.n (fun i3 => (Bx.mk (cond (Nat.beq i3 ((0 : Nat) + (Int.toNat x.fst.Ring))) false (x.snd.rings.get i3).nil) (TRr.mk (TRc.mk (cond (Nat.beq i3 ((0 : Nat) + (Int.toNat x.fst.Ring))) y2.snd.snd.AA.tail (x.snd.rings.get i3).x.AA.tail) (Sl.mk (cond (Nat.beq i3 ((0 : Nat) + (Int.toNat x.fst.Ring))) y2.snd.snd.AA.AD.nil (x.snd.rings.get i3).x.AA.AD.nil) (cond (Nat.beq i3 ((0 : Nat) + (Int.toNat x.fst.Ring))) y2.snd.snd.AA.AD.n (x.snd.rings.get i3).x.AA.AD.n) (fun i4 => (cond (Nat.beq i3 ((0 : Nat) + (Int.toNat x.fst.Ring))) (y2.snd.snd.AA.AD.get i4) ((x.snd.rings.get i3).x.AA.AD.get i4))))) (Bx.mk (cond (Nat.beq i3 ((0 : Nat) + (Int.toNat x.fst.Ring))) y2.snd.snd.s.nil (x.snd.rings.get i3).x.s.nil) (TSs.mk (Sl.mk (cond (Nat.beq i3 ((0 : Nat) + (Int.toNat x.fst.Ring))) y2.snd.snd.s.x.l.nil (x.snd.rings.get i3).x.s.x.l.nil) (cond (Nat.beq i3 ((0 : Nat) + (Int.toNat x.fst.Ring))) y2.snd.snd.s.x.l.n (x.snd.rings.get i3).x.s.x.l.n) (fun i4 => (TSo.mk (cond (Nat.beq i3 ((0 : Nat) + (Int.toNat x.fst.Ring))) (y2.snd.snd.s.x.l.get i4).AQ ((x.snd.rings.get i3).x.s.x.l.get i4).AQ) (cond (Nat.beq i3 ((0 : Nat) + (Int.toNat x.fst.Ring))) (y2.snd.snd.s.x.l.get i4).Value ((x.snd.rings.get i3).x.s.x.l.get i4).Value) (cond (Nat.beq i3 ((0 : Nat) + (Int.toNat x.fst.Ring))) (y2.snd.snd.s.x.l.get i4).Left ((x.snd.rings.get i3).x.s.x.l.get i4).Left)))) (cond (Nat.beq i3 ((0 : Nat) + (Int.toNat x.fst.Ring))) y2.snd.snd.s.x.AO (x.snd.rings.get i3).x.s.x.AO))) (cond (Nat.beq i3 ((0 : Nat) + (Int.toNat x.fst.Ring))) y2.snd.snd.most (x.snd.rings.get i3).x.most) (cond (Nat.beq i3 ((0 : Nat) + (Int.toNat x.fst.Ring))) y2.snd.snd.closed (x.snd.rings.get i3).x.closed))))) x.snd.now x.snd.reads x.snd.ended)))))))))
 (.ite (Ae x.fst.Kind 13)
 (.need (BQ x.fst.Ring x.snd.rings.n) <|
 (.need (((Nat.beq x.snd.rings.n x.snd.rings.n) && true) && (!(x.snd.rings.get ((0 : Nat) + (Int.toNat x.fst.Ring))).nil)) <|
 (.call con_f2i (x.snd.rings.get ((0 : Nat) + (Int.toNat x.fst.Ring))).x fun (y2 : R_f2i) =>
 (.need ((true && true) && ((Nat.beq x.snd.rings.n x.snd.rings.n) && (Nat.blt ((0 : Nat) + (Int.toNat x.fst.Ring)) x.snd.rings.n))) <|
 (.side ((fun v : Nat → V => v = v) (fun i3 => (cond (Nat.beq i3 ((0 : Nat) + (Int.toNat x.fst.Ring))) (V.ptr (Id.loc 73 0) List.nil) (V.Af (x.snd.rings.get i3).nil (V.cons (V.cons (V.int IntKind.u64 (x.snd.rings.get i3).x.AA.tail) (V.cons (V.A0 36 1 (x.snd.rings.get i3).x.AA.AD.nil (x.snd.rings.get i3).x.AA.AD.n (fun i4 => (V.int IntKind.u64 ((x.snd.rings.get i3).x.AA.AD.get i4)))) V.unit)) (V.cons (V.Af (x.snd.rings.get i3).x.s.nil (V.cons (V.A0 175 3 (x.snd.rings.get i3).x.s.x.l.nil (x.snd.rings.get i3).x.s.x.l.n (fun i4 => (V.cons (V.int IntKind.u64 ((x.snd.rings.get i3).x.s.x.l.get i4).AQ) (V.cons (V.int IntKind.u64 ((x.snd.rings.get i3).x.s.x.l.get i4).Value) (V.cons (V.int IntKind.i64 ((x.snd.rings.get i3).x.s.x.l.get i4).Left) V.unit))))) (V.cons (V.int IntKind.i64 (x.snd.rings.get i3).x.s.x.AO) V.unit))) (V.cons (V.int IntKind.u64 (x.snd.rings.get i3).x.most) (V.cons (V.bool (x.snd.rings.get i3).x.closed) V.unit)))))))) <|
 (.need ((true && true) && (Nat.beq x.snd.rings.n x.snd.rings.n)) <|
 (.Ab S_fd_20 D_fd_20 (X_fd_20.mk x.fst 0 (TFa.mk x.snd.p x.snd.threads (Sl.mk x.snd.rings.nil x.snd.rings.n (fun i3 => (Bx.mk (cond (Nat.beq i3 ((0 : Nat) + (Int.toNat x.fst.Ring))) false (x.snd.rings.get i3).nil) (TRr.mk (TRc.mk (cond (Nat.beq i3 ((0 : Nat) + (Int.toNat x.fst.Ring))) y2.snd.AA.tail (x.snd.rings.get i3).x.AA.tail) (Sl.mk (cond (Nat.beq i3 ((0 : Nat) + (Int.toNat x.fst.Ring))) y2.snd.AA.AD.nil (x.snd.rings.get i3).x.AA.AD.nil) (cond (Nat.beq i3 ((0 : Nat) + (Int.toNat x.fst.Ring))) y2.snd.AA.AD.n (x.snd.rings.get i3).x.AA.AD.n) (fun i4 => (cond (Nat.beq i3 ((0 : Nat) + (Int.toNat x.fst.Ring))) (y2.snd.AA.AD.get i4) ((x.snd.rings.get i3).x.AA.AD.get i4))))) (Bx.mk (cond (Nat.beq i3 ((0 : Nat) + (Int.toNat x.fst.Ring))) y2.snd.s.nil (x.snd.rings.get i3).x.s.nil) (TSs.mk (Sl.mk (cond (Nat.beq i3 ((0 : Nat) + (Int.toNat x.fst.Ring))) y2.snd.s.x.l.nil (x.snd.rings.get i3).x.s.x.l.nil) (cond (Nat.beq i3 ((0 : Nat) + (Int.toNat x.fst.Ring))) y2.snd.s.x.l.n (x.snd.rings.get i3).x.s.x.l.n) (fun i4 => (TSo.mk (cond (Nat.beq i3 ((0 : Nat) + (Int.toNat x.fst.Ring))) (y2.snd.s.x.l.get i4).AQ ((x.snd.rings.get i3).x.s.x.l.get i4).AQ) (cond (Nat.beq i3 ((0 : Nat) + (Int.toNat x.fst.Ring))) (y2.snd.s.x.l.get i4).Value ((x.snd.rings.get i3).x.s.x.l.get i4).Value) (cond (Nat.beq i3 ((0 : Nat) + (Int.toNat x.fst.Ring))) (y2.snd.s.x.l.get i4).Left ((x.snd.rings.get i3).x.s.x.l.get i4).Left)))) (cond (Nat.beq i3 ((0 : Nat) + (Int.toNat x.fst.Ring))) y2.snd.s.x.AO (x.snd.rings.get i3).x.s.x.AO))) (cond (Nat.beq i3 ((0 : Nat) + (Int.toNat x.fst.Ring))) y2.snd.most (x.snd.rings.get i3).x.most) (cond (Nat.beq i3 ((0 : Nat) + (Int.toNat x.fst.Ring))) y2.snd.closed (x.snd.rings.get i3).x.closed))))) x.snd.now x.snd.reads x.snd.ended)))))))))
 (.ite (Ae x.fst.Kind 8)
 (.Ab S_fd_20 D_fd_20 (X_fd_20.mk x.fst 0 (TFa.mk x.snd.p x.snd.threads x.snd.rings (imax x.snd.now x.fst.Value) x.snd.reads x.snd.ended)))
 (.ite (Ae x.fst.Kind 10)
 (.Ab S_fd_20 D_fd_20 (X_fd_20.mk x.fst 0 (TFa.mk x.snd.p x.snd.threads x.snd.rings x.snd.now (IntKind.u64.wrap (x.snd.reads + 1)) x.snd.ended)))
 (.ite (Ae x.fst.Kind 11)
 (.Ab S_fd_20 D_fd_20 (X_fd_20.mk x.fst 0 (TFa.mk x.snd.p x.snd.threads x.snd.rings x.snd.now x.snd.reads true)))
 (.Ab S_fd_20 D_fd_20 (X_fd_20.mk x.fst 0 x.snd)))))))))))
theorem sd_fd (x : X_fd) : (tt_fd x).AJ :=
 (TT.sC fun _ => (TT.sI (TT.sC fun _ => TT.sJ) (TT.sI (TT.sN (TT.sN (TT.sC fun _ => (TT.sN (TT.sS rfl (TT.sN TT.sJ)))))) (TT.sI (TT.sN (TT.sN (TT.sC fun _ => (TT.sN (TT.sS rfl (TT.sN TT.sJ)))))) (TT.sI (TT.sN (TT.sN (TT.sC fun _ => (TT.sN (TT.sS rfl (TT.sN TT.sJ)))))) (TT.sI (TT.sN (TT.sN (TT.sC fun _ => (TT.sN (TT.sS rfl (TT.sN TT.sJ)))))) (TT.sI TT.sJ (TT.sI TT.sJ (TT.sI TT.sJ TT.sJ)))))))))
def D_fd : AS X_fd R_fd := .of tt_fd
def con_fd : BN Tryz.prog :=
 CY 64 J_fd S_fd D_fd 2 1 [.any, .any] (lk mxk (lbc ok_fd_20 rfl lbn) sd_fd)
abbrev X_f25 : Type := TEv × TFa
abbrev R_f25 : Type := Int × TFa
def J_f25 : BT Tryz.prog :=
 Bg Tryz.prog Tryz.f33 19 [(3, 3)] [] [] [] [.any] [sh_TFa] [con_fb, con_fd, con_f10] R_f25 [] fun y => [(V.int .i64) y.1, e_TFa y.2]
def S_f25 : AR :=
 Aq Tryz.f33 2 1 X_f25 (fun x => [(V.ptr (.par 0) []), e_TEv x.1, e_TFa x.2]) fun l => (d_TEv (at_ l 1), d_TFa (at_ l 2))
def tt_f25 (x : X_f25) : TT Tryz.prog R_f25 :=
 (.call con_f10 (x.fst, x.snd) fun (y1 : R_f10) =>
 (.ite (!(Ae y1 0))
 (.ret (y1, x.snd))
 (.call con_fb (x.fst, x.snd) fun (y2 : R_fb) =>
 (.ite (!y2)
 (.ret (11, x.snd))
 (.call con_fd (x.fst, x.snd) fun (y3 : R_fd) =>
 (.ret (0, y3)))))))
theorem sd_f25 (x : X_f25) : (tt_f25 x).AJ :=
 (TT.sC fun _ => (TT.sI TT.sR (TT.sC fun _ => (TT.sI TT.sR (TT.sC fun _ => TT.sR)))))
def D_f25 : AS X_f25 R_f25 := .of tt_f25
def con_f25 : BN Tryz.prog :=
 CY 33 J_f25 S_f25 D_f25 2 1 [.any, .any] (lk mxk lbn sd_f25)
abbrev X_f2q : Type := (Sl Int) × AU × TFa
abbrev R_f2q : Type := TEv × Bool × TFa
def J_f2q : BT Tryz.prog :=
 Bg Tryz.prog Tryz.f18 23 [(5, 3), (10, 1), (12, 1)] [] [] [] [.any, .any] [sh_TFa] [con_f25, con_f28] R_f2q [] fun y => [V.CR (V.cons (e_TEv y.1) (V.cons (V.bool y.2.1) (V.unit))), e_TFa y.2.2]
def S_f2q : AR :=
 Aq Tryz.f18 3 1 X_f2q (fun x => [(V.ptr (.par 0) []), BL x.1, Bn x.2.1, e_TFa x.2.2]) fun l => (Bi (at_ l 1), Bw (at_ l 2), d_TFa (at_ l 3))
def tt_f2q (x : X_f2q) : TT Tryz.prog R_f2q :=
 (.call con_f28 (x.fst, (x.snd.fst, x.snd.snd)) fun (y1 : R_f28) =>
 (.ite y1.snd
 (.call con_f25 (y1.fst, x.snd.snd) fun (y2 : R_f25) =>
 (.ret (y1.fst, (y1.snd, y2.snd))))
 (.ret (y1.fst, (y1.snd, x.snd.snd)))))
theorem sd_f2q (x : X_f2q) : (tt_f2q x).AJ :=
 (TT.sC fun _ => (TT.sI (TT.sC fun _ => TT.sR) TT.sR))
def D_f2q : AS X_f2q R_f2q := .of tt_f2q
def con_f2q : BN Tryz.prog :=
 CY 18 J_f2q S_f2q D_f2q 3 1 [.any, BU, .any] (lk mxk lbn sd_f2q)
abbrev X_f1b : Type := Int × TFa
abbrev R_f1b : Type := Bool
abbrev RR_f1b : Type := Bool × TFa
abbrev p_f1b (y : RR_f1b) : TFa := y.2
abbrev w_f1b (x : X_f1b) : TFa := x.2
def J_f1b : BT Tryz.prog :=
 Bg Tryz.prog Tryz.f54 19 [] [] [] [.back (.loc 12 0)] [.any] [sh_TFa] [con_f14] RR_f1b [] fun y => [V.bool y.1, e_TFa y.2]
def S_f1b : AR :=
 Aq Tryz.f54 2 1 X_f1b (fun x => [(V.ptr (.par 0) []), (V.int .i64) x.1, e_TFa x.2]) fun l => (dI (at_ l 1), d_TFa (at_ l 2))
def tt_f1b (x : X_f1b) : TT Tryz.prog RR_f1b :=
 (.call con_f14 (x.fst, x.snd) fun (y1 : R_f14) =>
 (.ite y1
 (.need (BQ x.fst x.snd.threads.n) <|
 (.need ((Nat.beq x.snd.threads.n x.snd.threads.n) && true) <|
 (.need ((true && true) && (Nat.beq x.snd.threads.n x.snd.threads.n)) <|
 (.ret ((Ae (x.snd.threads.get ((0 : Nat) + (Int.toNat x.fst))).Status 0), x.snd)))))
 (.ret (false, x.snd))))
theorem sd_f1b (x : X_f1b) : (tt_f1b x).AJ :=
 (TT.sC fun _ => (TT.sI (TT.sN (TT.sN (TT.sN TT.sR))) TT.sR))
theorem roT_f1b (x : X_f1b) : TT.Ro p_f1b (w_f1b x) (tt_f1b x) :=
 (TT.rC fun _ => (TT.rI (TT.rN (TT.rN (TT.rN (TT.rR rfl)))) (TT.rR rfl)))
def D_f1b : AS X_f1b R_f1b := .ro (.of tt_f1b) (fun y => (y.1)) (fun y x => (y, x.2)) fun x y h => congrArg (fun o => (y.1, o)) (roT_f1b x y h)
def con_f1b : BN Tryz.prog :=
 DC 54 J_f1b S_f1b (.of tt_f1b) D_f1b (fun y x => (y, x.2)) (fun y => V.bool y) 2 1 [.any, .any] (lk mxk lbn sd_f1b) (fun x => ⟨(nu_e_TFa : ∀ y, (e_TFa y).Cd) (x.2), trivial⟩)
abbrev G7 : Type := (Sl AU)
def A5 : G7 → V := (Lu none 4 Bn)
def Bc : V → G7 := (LU Bw)
def CJ : Sh := (.sl none 4 (Bn (Bw .undef)))
abbrev Dsl_TEv : Type := (Sl TEv)
def esl_TEv : Dsl_TEv → V := (Lu none 5 e_TEv)
def dsl_TEv : V → Dsl_TEv := (LU d_TEv)
def hsl_TEv : Sh := (.sl none 5 (e_TEv (d_TEv .undef)))
structure AY where
 As : (Sl TEv)
 State : TSt
 Idle : Int
 Ck : Int
def A1 (v : V) : AY :=
 ⟨dsl_TEv (fd v 0), d_TSt (fd v 1), dI (fd v 2), dI (fd v 3)⟩
def A3 (x : AY) : V :=
 V.cons (esl_TEv x.As) (V.cons (e_TSt x.State) (V.cons ((V.int .i64) x.Idle) (V.cons ((V.int .i64) x.Ck) (V.unit))))
theorem O7 (x : AY) : (A3 x).Cd := ⟨trivial, (nu_e_TSt : ∀ y, (e_TSt y).Cd) x.State, trivial, trivial, trivial⟩
def A2 : Sh := (.cons hsl_TEv (.cons sh_TSt .any))
abbrev DslA_TEv : Type := (Sl TEv)
def eslA_TEv : DslA_TEv → V := (Lu (some 43) 5 e_TEv)
def dslA_TEv : V → DslA_TEv := (LU d_TEv)
def hslA_TEv : Sh := (.sl (some 43) 5 (e_TEv (d_TEv .undef)))
def DF (x : AY) : V :=
 V.cons (eslA_TEv x.As) (V.cons (e_TSt x.State) (V.cons ((V.int .i64) x.Idle) (V.cons ((V.int .i64) x.Ck) (V.unit))))
theorem Ns (x : AY) : (DF x).Cd := ⟨trivial, (nu_e_TSt : ∀ y, (e_TSt y).Cd) x.State, trivial, trivial, trivial⟩
def Dp : Sh := (.cons hslA_TEv (.cons sh_TSt .any))
abbrev X_fc : Type := TPg × (Sl Int) × (Sl AU)
abbrev R_fc : Type := AY × Int
def J_fc : BT Tryz.prog :=
 Bg Tryz.prog Tryz.f22 73 [(3, 3), (15, 1), (34, 1), (40, 1), (54, 1), (69, 1)] [(7, [.open_ 8])] [] [] [A2, .any] [] [con_f1b, con_f1, con_f12, con_f2q] R_fc [] fun y => [V.CR (V.cons (A3 y.1) (V.cons ((V.int .i64) y.2) (V.unit)))]
def S_fc : AR :=
 Aq Tryz.f22 3 0 X_fc (fun x => [e_TPg x.1, BL x.2.1, A5 x.2.2]) fun l => (d_TPg (at_ l 0), Bi (at_ l 1), Bc (at_ l 2))
structure X_fc_6 where
 Ba : (Sl Int)
 KG : (Sl AU)
 f_8 : (Bx TFa)
 Jr : AY
def S_fc_6 : AR :=
 Ai Tryz.f22 6 [(1, BU), (2, CJ), (6, .any), (8, hbox_TFa)] [] [(.loc 6 0, A2)] X_fc_6 (fun x => [BL x.Ba, A5 x.KG, (V.ptr (.loc 6 0) []), ebox_TFa x.f_8, A3 x.Jr]) fun l => ⟨Bi (at_ l 0), Bc (at_ l 1), dbox_TFa (at_ l 3), A1 (at_ l 4)⟩
structure X_fc_8 where
 Ba : (Sl Int)
 KQ : (Sl AU)
 MW : Int
 Ij : Int
 Jr : AY
 CP : AY
 Rb : TFa
def S_fc_8 : AR :=
 Ai Tryz.f22 8 [(1, BU), (6, .any), (8, .any), (10, .any), (34, CJ), (35, .any), (36, .any)] [] [(.loc 6 0, A2), (.loc 10 0, Dp), (.loc 8 1, sh_TFa)] X_fc_8 (fun x => [BL x.Ba, (V.ptr (.loc 6 0) []), (V.ptr (.loc 8 1) []), (V.ptr (.loc 10 0) []), A5 x.KQ, (V.int .i64) x.MW, (V.int .i64) x.Ij, A3 x.Jr, DF x.CP, e_TFa x.Rb]) fun l => ⟨Bi (at_ l 0), Bc (at_ l 4), dI (at_ l 5), dI (at_ l 6), A1 (at_ l 7), A1 (at_ l 8), d_TFa (at_ l 9)⟩
structure X_fc_16 where
 Ba : (Sl Int)
 KQ : (Sl AU)
 MW : Int
 Ij : Int
 Jr : AY
 CP : AY
 Rb : TFa
def S_fc_16 : AR :=
 Ai Tryz.f22 16 [(1, BU), (6, .any), (8, .any), (10, .any), (34, CJ), (35, .any), (36, .any)] [] [(.loc 6 0, A2), (.loc 10 0, Dp), (.loc 8 1, sh_TFa)] X_fc_16 (fun x => [BL x.Ba, (V.ptr (.loc 6 0) []), (V.ptr (.loc 8 1) []), (V.ptr (.loc 10 0) []), A5 x.KQ, (V.int .i64) x.MW, (V.int .i64) x.Ij, A3 x.Jr, DF x.CP, e_TFa x.Rb]) fun l => ⟨Bi (at_ l 0), Bc (at_ l 4), dI (at_ l 5), dI (at_ l 6), A1 (at_ l 7), A1 (at_ l 8), d_TFa (at_ l 9)⟩
structure X_fc_17 where
 Jr : AY
 CP : AY
 Rb : TFa
def S_fc_17 : AR :=
 Ai Tryz.f22 17 (an [6, 8, 10]) [] [(.loc 6 0, A2), (.loc 10 0, Dp), (.loc 8 1, sh_TFa)] X_fc_17 (fun x => [(V.ptr (.loc 6 0) []), (V.ptr (.loc 8 1) []), (V.ptr (.loc 10 0) []), A3 x.Jr, DF x.CP, e_TFa x.Rb]) fun l => ⟨A1 (at_ l 3), A1 (at_ l 4), d_TFa (at_ l 5)⟩
def tt_fc_17 (x : X_fc_17) : TT Tryz.prog R_fc :=
 (.call con_f1 x.Rb fun (y1 : R_f1) =>
 (.ret ((AY.mk x.CP.As y1 x.CP.Idle x.CP.Ck), 0)))
theorem sd_fc_17 (x : X_fc_17) : (tt_fc_17 x).AJ :=
 (TT.sC fun _ => TT.sR)
def D_fc_17 : AS X_fc_17 R_fc := .of tt_fc_17
theorem ok_fc_17 : AX J_fc S_fc_17 D_fc_17 :=
 lk mxk lbn sd_fc_17
def tt_fc_16 (D_fc_8 : AS X_fc_8 R_fc) (x : X_fc_16) : TT Tryz.prog R_fc :=
 (.Ab S_fc_8 D_fc_8 (X_fc_8.mk x.Ba x.KQ x.MW (IntKind.i64.wrap (x.Ij + 1)) x.Jr x.CP x.Rb))
theorem sd_fc_16 (D_fc_8 : AS X_fc_8 R_fc) (x : X_fc_16) : (tt_fc_16 D_fc_8 x).AJ :=
 TT.sJ
def D_fc_16 (D_fc_8 : AS X_fc_8 R_fc) : AS X_fc_16 R_fc := .of (tt_fc_16 D_fc_8)
theorem ok_fc_16 (D_fc_8 : AS X_fc_8 R_fc) (h_8 : AX J_fc S_fc_8 D_fc_8) : AX J_fc S_fc_16 (D_fc_16 D_fc_8) :=
 lk mxk (lbc h_8 rfl (lbc ok_fc_17 rfl lbn)) (sd_fc_16 D_fc_8)
def tt_fc_8 (D_fc_8 : AS X_fc_8 R_fc) (x : X_fc_8) : TT Tryz.prog R_fc :=
 (.ite (B8 x.Ij x.MW)
 (.need (BQ x.Ij x.KQ.n) <|
 (.call con_f2q (x.Ba, ((x.KQ.get (Int.toNat x.Ij)), x.Rb)) fun (y2 : R_f2q) =>
 (.ite y2.snd.fst
 (.need (true && (room (x.CP.As.n + 1) 40)) <|
 (.Ab S_fc_16 (D_fc_16 D_fc_8) (X_fc_16.mk x.Ba x.KQ x.MW x.Ij x.Jr (AY.mk (Sl.mk (cond (Nat.beq 1 0) x.CP.As.nil false) (x.CP.As.n + 1) (fun i3 => (TEv.mk (cond (Nat.blt i3 x.CP.As.n) (x.CP.As.get i3).Thread y2.fst.Thread) (cond (Nat.blt i3 x.CP.As.n) (x.CP.As.get i3).Kind y2.fst.Kind) (cond (Nat.blt i3 x.CP.As.n) (x.CP.As.get i3).Ring y2.fst.Ring) (cond (Nat.blt i3 x.CP.As.n) (x.CP.As.get i3).AG y2.fst.AG) (cond (Nat.blt i3 x.CP.As.n) (x.CP.As.get i3).Value y2.fst.Value)))) x.CP.State x.CP.Idle x.CP.Ck) y2.snd.snd)))
 (.call con_f1b ((x.KQ.get (Int.toNat x.Ij)).Bz, y2.snd.snd) fun (y3 : R_f1b) =>
 (.ite y3
 (.Ab S_fc_16 (D_fc_16 D_fc_8) (X_fc_16.mk x.Ba x.KQ x.MW x.Ij x.Jr (AY.mk x.CP.As x.CP.State x.CP.Idle (IntKind.i64.wrap (x.CP.Ck + 1))) y2.snd.snd))
 (.Ab S_fc_16 (D_fc_16 D_fc_8) (X_fc_16.mk x.Ba x.KQ x.MW x.Ij x.Jr (AY.mk x.CP.As x.CP.State (IntKind.i64.wrap (x.CP.Idle + 1)) x.CP.Ck) y2.snd.snd)))))))
 (.Ab S_fc_17 D_fc_17 (X_fc_17.mk x.Jr x.CP x.Rb)))
theorem sd_fc_8 (D_fc_8 : AS X_fc_8 R_fc) (x : X_fc_8) : (tt_fc_8 D_fc_8 x).AJ :=
 (TT.sI (TT.sN (TT.sC fun _ => (TT.sI (TT.sN TT.sJ) (TT.sC fun _ => (TT.sI TT.sJ TT.sJ))))) TT.sJ)
def D_fc_8 : AS X_fc_8 R_fc := AS.loop tt_fc_8
theorem ok_fc_8 : AX J_fc S_fc_8 D_fc_8 :=
 BG fun D_fc_8 h_8 => lk mxk (lbc h_8 rfl (lbc ok_fc_17 rfl (lbc (ok_fc_16 D_fc_8 h_8) rfl lbn))) (sd_fc_8 D_fc_8)
def tt_fc_6 (x : X_fc_6) : TT Tryz.prog R_fc :=
 (.need (!x.f_8.nil) <|
 (.Ab S_fc_8 D_fc_8 (X_fc_8.mk x.Ba x.KG ((x.KG.n : Nat) : Int) 0 x.Jr (AY.mk (Sl.mk true 0 (fun _i1 => (TEv.mk 0 0 0 0 0))) (TSt.mk (Sl.mk true 0 (fun _i1 => (TTh.mk 0 0 0 0 0 (fun _i2 => (0 : Int)) (Sl.mk true 0 (fun _i2 => (0 : Int)))))) (Sl.mk true 0 (fun _i1 => (TRs.mk 0 (Sl.mk true 0 (fun _i2 => (0 : Int))) false (Sl.mk true 0 (fun _i2 => (TSo.mk 0 0 0)))))) 0 0 false) 0 0) x.f_8.x)))
theorem sd_fc_6 (x : X_fc_6) : (tt_fc_6 x).AJ :=
 (TT.sN TT.sJ)
def D_fc_6 : AS X_fc_6 R_fc := .of tt_fc_6
theorem ok_fc_6 : AX J_fc S_fc_6 D_fc_6 :=
 lk mxk (lbc ok_fc_17 rfl (lbc ok_fc_8 rfl lbn)) sd_fc_6
def tt_fc (x : X_fc) : TT Tryz.prog R_fc :=
 (.call con_f12 x.fst fun (y1 : R_f12) =>
 (.ite (!(Ae y1.snd 0))
 (.ret ((AY.mk (Sl.mk true 0 (fun _i2 => (TEv.mk 0 0 0 0 0))) (TSt.mk (Sl.mk true 0 (fun _i2 => (TTh.mk 0 0 0 0 0 (fun _i3 => (0 : Int)) (Sl.mk true 0 (fun _i3 => (0 : Int)))))) (Sl.mk true 0 (fun _i2 => (TRs.mk 0 (Sl.mk true 0 (fun _i3 => (0 : Int))) false (Sl.mk true 0 (fun _i3 => (TSo.mk 0 0 0)))))) 0 0 false) 0 0), 1))
 (.ite (B8 65536 ((x.snd.snd.n : Nat) : Int))
 (.ret ((AY.mk (Sl.mk true 0 (fun _i2 => (TEv.mk 0 0 0 0 0))) (TSt.mk (Sl.mk true 0 (fun _i2 => (TTh.mk 0 0 0 0 0 (fun _i3 => (0 : Int)) (Sl.mk true 0 (fun _i3 => (0 : Int)))))) (Sl.mk true 0 (fun _i2 => (TRs.mk 0 (Sl.mk true 0 (fun _i3 => (0 : Int))) false (Sl.mk true 0 (fun _i3 => (TSo.mk 0 0 0)))))) 0 0 false) 0 0), 4))
 (.ite (B8 65536 ((x.snd.fst.n : Nat) : Int))
 (.ret ((AY.mk (Sl.mk true 0 (fun _i2 => (TEv.mk 0 0 0 0 0))) (TSt.mk (Sl.mk true 0 (fun _i2 => (TTh.mk 0 0 0 0 0 (fun _i3 => (0 : Int)) (Sl.mk true 0 (fun _i3 => (0 : Int)))))) (Sl.mk true 0 (fun _i2 => (TRs.mk 0 (Sl.mk true 0 (fun _i3 => (0 : Int))) false (Sl.mk true 0 (fun _i3 => (TSo.mk 0 0 0)))))) 0 0 false) 0 0), 4))
 (.Ab S_fc_6 D_fc_6 (X_fc_6.mk x.snd.fst x.snd.snd (Bx.mk y1.fst.nil y1.fst.x) (AY.mk (Sl.mk true 0 (fun _i2 => (TEv.mk 0 0 0 0 0))) (TSt.mk (Sl.mk true 0 (fun _i2 => (TTh.mk 0 0 0 0 0 (fun _i3 => (0 : Int)) (Sl.mk true 0 (fun _i3 => (0 : Int)))))) (Sl.mk true 0 (fun _i2 => (TRs.mk 0 (Sl.mk true 0 (fun _i3 => (0 : Int))) false (Sl.mk true 0 (fun _i3 => (TSo.mk 0 0 0)))))) 0 0 false) 0 0)))))))
theorem sd_fc (x : X_fc) : (tt_fc x).AJ :=
 (TT.sC fun _ => (TT.sI TT.sR (TT.sI TT.sR (TT.sI TT.sR TT.sJ))))
def D_fc : AS X_fc R_fc := .of tt_fc
def con_fc : BN Tryz.prog :=
 CY 22 J_fc S_fc D_fc 3 0 [sh_TPg, BU, CJ] (lk mxk (lbc ok_fc_17 rfl (lbc ok_fc_8 rfl (lbc ok_fc_6 rfl lbn))) sd_fc)
abbrev Gc : Type := (Sl AU)
def Dl : Gc → V := (Lu (some 41) 4 Bn)
def Dm : V → Gc := (LU Bw)
def Dj : Sh := (.sl (some 41) 4 (Bn (Bw .undef)))
abbrev X_fa : Type := TPg × (Sl TEv)
abbrev R_fa : Type := (Sl Int) × (Sl AU) × Int
def J_fa : BT Tryz.prog :=
 Bg Tryz.prog Tryz.f27 68 [(2, 3), (18, 1), (23, 1), (52, 1), (61, 1), (66, 1), (67, 1)] [(6, [.open_ 7])] [] [.Eg 4, .Eg 5] [BU, CJ, .any] [] [con_f2p, con_f25, con_f1c, con_f12] R_fa [] fun y => [V.CR (V.cons (BL y.1) (V.cons (A5 y.2.1) (V.cons ((V.int .i64) y.2.2) (V.unit))))]
def S_fa : AR :=
 Aq Tryz.f27 2 0 X_fa (fun x => [e_TPg x.1, esl_TEv x.2]) fun l => (d_TPg (at_ l 0), dsl_TEv (at_ l 1))
structure X_fa_7 where
 Cx : (Sl Int)
 BH : (Sl AU)
 C2 : (Sl TEv)
 JX : Int
 Dq : Int
 Rc : TFa
def S_fa_7 : AR :=
 Ai Tryz.f27 7 [(4, F3), (5, Dj), (7, .any), (23, hsl_TEv), (24, .any), (25, .any)] [] [(.loc 7 1, sh_TFa)] X_fa_7 (fun x => [F5 x.Cx, Dl x.BH, (V.ptr (.loc 7 1) []), esl_TEv x.C2, (V.int .i64) x.JX, (V.int .i64) x.Dq, e_TFa x.Rc]) fun l => ⟨ID (at_ l 0), Dm (at_ l 1), dsl_TEv (at_ l 3), dI (at_ l 4), dI (at_ l 5), d_TFa (at_ l 6)⟩
structure X_fa_17 where
 Cx : (Sl Int)
 BH : (Sl AU)
 C2 : (Sl TEv)
 JX : Int
 Dq : Int
 CP : TEv
 SN : AU
 Rc : TFa
def S_fa_17 : AR :=
 Ai Tryz.f27 17 [(4, F3), (5, Dj), (7, .any), (10, .any), (11, .any), (23, hsl_TEv), (24, .any), (25, .any)] [] [(.loc 10 0, .any), (.loc 11 0, .any), (.loc 7 1, sh_TFa)] X_fa_17 (fun x => [F5 x.Cx, Dl x.BH, (V.ptr (.loc 7 1) []), (V.ptr (.loc 10 0) []), (V.ptr (.loc 11 0) []), esl_TEv x.C2, (V.int .i64) x.JX, (V.int .i64) x.Dq, e_TEv x.CP, Bn x.SN, e_TFa x.Rc]) fun l => ⟨ID (at_ l 0), Dm (at_ l 1), dsl_TEv (at_ l 5), dI (at_ l 6), dI (at_ l 7), d_TEv (at_ l 8), Bw (at_ l 9), d_TFa (at_ l 10)⟩
structure X_fa_20 where
 Cx : (Sl Int)
 BH : (Sl AU)
 C2 : (Sl TEv)
 JX : Int
 Dq : Int
 Rc : TFa
def S_fa_20 : AR :=
 Ai Tryz.f27 20 [(4, F3), (5, Dj), (7, .any), (23, hsl_TEv), (24, .any), (25, .any)] [] [(.loc 7 1, sh_TFa)] X_fa_20 (fun x => [F5 x.Cx, Dl x.BH, (V.ptr (.loc 7 1) []), esl_TEv x.C2, (V.int .i64) x.JX, (V.int .i64) x.Dq, e_TFa x.Rc]) fun l => ⟨ID (at_ l 0), Dm (at_ l 1), dsl_TEv (at_ l 3), dI (at_ l 4), dI (at_ l 5), d_TFa (at_ l 6)⟩
structure X_fa_21 where
 Cx : (Sl Int)
 BH : (Sl AU)
def S_fa_21 : AR :=
 Ai Tryz.f27 21 [(4, F3), (5, Dj)] [] [] X_fa_21 (fun x => [F5 x.Cx, Dl x.BH]) fun l => ⟨ID (at_ l 0), Dm (at_ l 1)⟩
def tt_fa_21 (x : X_fa_21) : TT Tryz.prog R_fa :=
 (.ret (x.Cx, (x.BH, 0)))
theorem sd_fa_21 (x : X_fa_21) : (tt_fa_21 x).AJ :=
 TT.sR
def D_fa_21 : AS X_fa_21 R_fa := .of tt_fa_21
theorem ok_fa_21 : AX J_fa S_fa_21 D_fa_21 :=
 lk mxk lbn sd_fa_21
def tt_fa_20 (D_fa_7 : AS X_fa_7 R_fa) (x : X_fa_20) : TT Tryz.prog R_fa :=
 (.Ab S_fa_7 D_fa_7 (X_fa_7.mk x.Cx x.BH x.C2 x.JX (IntKind.i64.wrap (x.Dq + 1)) x.Rc))
theorem sd_fa_20 (D_fa_7 : AS X_fa_7 R_fa) (x : X_fa_20) : (tt_fa_20 D_fa_7 x).AJ :=
 TT.sJ
def D_fa_20 (D_fa_7 : AS X_fa_7 R_fa) : AS X_fa_20 R_fa := .of (tt_fa_20 D_fa_7)
theorem ok_fa_20 (D_fa_7 : AS X_fa_7 R_fa) (h_7 : AX J_fa S_fa_7 D_fa_7) : AX J_fa S_fa_20 (D_fa_20 D_fa_7) :=
 lk mxk (lbc h_7 rfl (lbc ok_fa_21 rfl lbn)) (sd_fa_20 D_fa_7)
def tt_fa_17 (D_fa_7 : AS X_fa_7 R_fa) (x : X_fa_17) : TT Tryz.prog R_fa :=
 (.call con_f25 (x.CP, x.Rc) fun (y2 : R_f25) =>
 (.ite (!(Ae y2.fst 0))
 (.ret ((Sl.mk true 0 (fun _i3 => (0 : Int))), ((Sl.mk true 0 (fun _i3 => (AU.mk 0 0 0 false))), 11)))
 (.need (true && (room (x.BH.n + 1) 32)) <|
 (.Ab S_fa_20 (D_fa_20 D_fa_7) (X_fa_20.mk x.Cx (Sl.mk (cond (Nat.beq 1 0) x.BH.nil false) (x.BH.n + 1) (fun i3 => (AU.mk (cond (Nat.blt i3 x.BH.n) (x.BH.get i3).Bz x.SN.Bz) (cond (Nat.blt i3 x.BH.n) (x.BH.get i3).Df x.SN.Df) (cond (Nat.blt i3 x.BH.n) (x.BH.get i3).GY x.SN.GY) (cond (Nat.blt i3 x.BH.n) (x.BH.get i3).G6 x.SN.G6)))) x.C2 x.JX x.Dq y2.snd)))))
theorem sd_fa_17 (D_fa_7 : AS X_fa_7 R_fa) (x : X_fa_17) : (tt_fa_17 D_fa_7 x).AJ :=
 (TT.sC fun _ => (TT.sI TT.sR (TT.sN TT.sJ)))
def D_fa_17 (D_fa_7 : AS X_fa_7 R_fa) : AS X_fa_17 R_fa := .of (tt_fa_17 D_fa_7)
theorem ok_fa_17 (D_fa_7 : AS X_fa_7 R_fa) (h_7 : AX J_fa S_fa_7 D_fa_7) : AX J_fa S_fa_17 (D_fa_17 D_fa_7) :=
 lk mxk (lbc h_7 rfl (lbc ok_fa_21 rfl (lbc (ok_fa_20 D_fa_7 h_7) rfl lbn))) (sd_fa_17 D_fa_7)
def tt_fa_7 (D_fa_7 : AS X_fa_7 R_fa) (x : X_fa_7) : TT Tryz.prog R_fa :=
 (.ite (B8 x.Dq x.JX)
 (.need (BQ x.Dq x.C2.n) <|
 (.ite (Ae (x.C2.get (Int.toNat x.Dq)).Kind 8)
 (.call con_f1c x.Rc fun (y2 : R_f1c) =>
 (.Ab S_fa_17 (D_fa_17 D_fa_7) (X_fa_17.mk x.Cx x.BH x.C2 x.JX x.Dq (x.C2.get (Int.toNat x.Dq)) (AU.mk (x.C2.get (Int.toNat x.Dq)).Thread (IntKind.u64.wrap ((x.C2.get (Int.toNat x.Dq)).Value - y2)) 0 (Ae (x.C2.get (Int.toNat x.Dq)).Kind 7)) x.Rc)))
 (.ite (Ae (x.C2.get (Int.toNat x.Dq)).Kind 9)
 (.Ab S_fa_17 (D_fa_17 D_fa_7) (X_fa_17.mk x.Cx x.BH x.C2 x.JX x.Dq (x.C2.get (Int.toNat x.Dq)) (AU.mk (x.C2.get (Int.toNat x.Dq)).Thread 0 (x.C2.get (Int.toNat x.Dq)).Value (Ae (x.C2.get (Int.toNat x.Dq)).Kind 7)) x.Rc))
 (.ite (Ae (x.C2.get (Int.toNat x.Dq)).Kind 10)
 (.need (true && (room (x.Cx.n + 1) 8)) <|
 (.Ab S_fa_17 (D_fa_17 D_fa_7) (X_fa_17.mk (Sl.mk (cond (Nat.beq 1 0) x.Cx.nil false) (x.Cx.n + 1) (fun i2 => (cond (Nat.blt i2 x.Cx.n) (x.Cx.get i2) (x.C2.get (Int.toNat x.Dq)).Value))) x.BH x.C2 x.JX x.Dq (x.C2.get (Int.toNat x.Dq)) (AU.mk (x.C2.get (Int.toNat x.Dq)).Thread 0 0 (Ae (x.C2.get (Int.toNat x.Dq)).Kind 7)) x.Rc)))
 (.Ab S_fa_17 (D_fa_17 D_fa_7) (X_fa_17.mk x.Cx x.BH x.C2 x.JX x.Dq (x.C2.get (Int.toNat x.Dq)) (AU.mk (x.C2.get (Int.toNat x.Dq)).Thread 0 0 (Ae (x.C2.get (Int.toNat x.Dq)).Kind 7)) x.Rc))))))
 (.Ab S_fa_21 D_fa_21 (X_fa_21.mk x.Cx x.BH)))
theorem sd_fa_7 (D_fa_7 : AS X_fa_7 R_fa) (x : X_fa_7) : (tt_fa_7 D_fa_7 x).AJ :=
 (TT.sI (TT.sN (TT.sI (TT.sC fun _ => TT.sJ) (TT.sI TT.sJ (TT.sI (TT.sN TT.sJ) TT.sJ)))) TT.sJ)
def D_fa_7 : AS X_fa_7 R_fa := AS.loop tt_fa_7
theorem ok_fa_7 : AX J_fa S_fa_7 D_fa_7 :=
 BG fun D_fa_7 h_7 => lk mxk (lbc h_7 rfl (lbc ok_fa_21 rfl (lbc (ok_fa_20 D_fa_7 h_7) rfl (lbc (ok_fa_17 D_fa_7 h_7) rfl lbn)))) (sd_fa_7 D_fa_7)
def tt_fa (x : X_fa) : TT Tryz.prog R_fa :=
 (.call con_f2p x.fst fun (y1 : R_f2p) =>
 (.ite (!y1)
 (.ret ((Sl.mk true 0 (fun _i2 => (0 : Int))), ((Sl.mk true 0 (fun _i2 => (AU.mk 0 0 0 false))), 1)))
 (.ite (B8 65536 ((x.snd.n : Nat) : Int))
 (.ret ((Sl.mk true 0 (fun _i2 => (0 : Int))), ((Sl.mk true 0 (fun _i2 => (AU.mk 0 0 0 false))), 4)))
 (.call con_f12 x.fst fun (y2 : R_f12) =>
 (.need (!y2.fst.nil) <|
 (.Ab S_fa_7 D_fa_7 (X_fa_7.mk (Sl.mk true 0 (fun _i3 => (0 : Int))) (Sl.mk true 0 (fun _i3 => (AU.mk 0 0 0 false))) x.snd ((x.snd.n : Nat) : Int) 0 y2.fst.x)))))))
theorem sd_fa (x : X_fa) : (tt_fa x).AJ :=
 (TT.sC fun _ => (TT.sI TT.sR (TT.sI TT.sR (TT.sC fun _ => (TT.sN TT.sJ)))))
def D_fa : AS X_fa R_fa := .of tt_fa
def con_fa : BN Tryz.prog :=
 CY 27 J_fa S_fa D_fa 2 0 [sh_TPg, hsl_TEv] (lk mxk (lbc ok_fa_21 rfl (lbc ok_fa_7 rfl lbn)) sd_fa)
abbrev X_f1t : Type := (Sl TEv) × (Sl TEv)
abbrev R_f1t : Type := Bool
def J_f1t : BT Tryz.prog :=
 Bg Tryz.prog Tryz.f26 26 [] [] [] [] [.any] [] [] R_f1t [] fun y => [V.bool y]
def S_f1t : AR :=
 Aq Tryz.f26 2 0 X_f1t (fun x => [esl_TEv x.1, esl_TEv x.2]) fun l => (dsl_TEv (at_ l 0), dsl_TEv (at_ l 1))
structure X_f1t_4 where
 K8 : (Sl TEv)
 L2 : (Sl TEv)
 EF : Int
def S_f1t_4 : AR :=
 Ai Tryz.f26 4 [(0, hsl_TEv), (1, hsl_TEv), (5, .any)] [] [] X_f1t_4 (fun x => [esl_TEv x.K8, esl_TEv x.L2, (V.int .i64) x.EF]) fun l => ⟨dsl_TEv (at_ l 0), dsl_TEv (at_ l 1), dI (at_ l 2)⟩
def tt_f1t_4 (D_f1t_4 : AS X_f1t_4 R_f1t) (x : X_f1t_4) : TT Tryz.prog R_f1t :=
 (.ite (B8 x.EF ((x.K8.n : Nat) : Int))
 (.need (BQ x.EF x.K8.n) <|
 (.need (BQ x.EF x.L2.n) <|
 (.ite (!((Ae (x.K8.get (Int.toNat x.EF)).Thread (x.L2.get (Int.toNat x.EF)).Thread) && ((Ae (x.K8.get (Int.toNat x.EF)).Kind (x.L2.get (Int.toNat x.EF)).Kind) && ((Ae (x.K8.get (Int.toNat x.EF)).Ring (x.L2.get (Int.toNat x.EF)).Ring) && ((Ae (x.K8.get (Int.toNat x.EF)).AG (x.L2.get (Int.toNat x.EF)).AG) && ((Ae (x.K8.get (Int.toNat x.EF)).Value (x.L2.get (Int.toNat x.EF)).Value) && true))))))
 (.ret false)
 (.Ab S_f1t_4 D_f1t_4 (X_f1t_4.mk x.K8 x.L2 (IntKind.i64.wrap (x.EF + 1)))))))
 (.ret true))
theorem sd_f1t_4 (D_f1t_4 : AS X_f1t_4 R_f1t) (x : X_f1t_4) : (tt_f1t_4 D_f1t_4 x).AJ :=
 (TT.sI (TT.sN (TT.sN (TT.sI TT.sR TT.sJ))) TT.sR)
def D_f1t_4 : AS X_f1t_4 R_f1t := AS.loop tt_f1t_4
theorem ok_f1t_4 : AX J_f1t S_f1t_4 D_f1t_4 :=
 BG fun D_f1t_4 h_4 => lk mxk (lbc h_4 rfl lbn) (sd_f1t_4 D_f1t_4)
def tt_f1t (x : X_f1t) : TT Tryz.prog R_f1t :=
 (.ite (!(Ae ((x.fst.n : Nat) : Int) ((x.snd.n : Nat) : Int)))
 (.ret false)
 (.Ab S_f1t_4 D_f1t_4 (X_f1t_4.mk x.fst x.snd 0)))
theorem sd_f1t (x : X_f1t) : (tt_f1t x).AJ :=
 (TT.sI TT.sR TT.sJ)
def D_f1t : AS X_f1t R_f1t := .of tt_f1t
def con_f1t : BN Tryz.prog :=
 CY 26 J_f1t S_f1t D_f1t 2 0 [hsl_TEv, hsl_TEv] (lk mxk (lbc ok_f1t_4 rfl lbn) sd_f1t)
abbrev X_f23 : Type := Int
abbrev R_f23 : Type := TAk × Int
def J_f23 : BT Tryz.prog :=
 Bg Tryz.prog Tryz.f42 19 [(16, 1)] [] [] [] [.any, .any] [] [] R_f23 [] fun y => [V.CR (V.cons (e_TAk y.1) (V.cons ((V.int .i64) y.2) (V.unit)))]
def S_f23 : AR :=
 Aq Tryz.f42 2 0 X_f23 (fun x => [V.Cg, (V.int .i64) x]) fun l => (dI (at_ l 1))
def tt_f23 (_x : X_f23) : TT Tryz.prog R_f23 :=
 (.ret ((TAk.mk 0 0 0 0 0 0), 15))
theorem sd_f23 (x : X_f23) : (tt_f23 x).AJ :=
 TT.sR
def D_f23 : AS X_f23 R_f23 := .of tt_f23
def con_f23 : BN Tryz.prog :=
 CY 42 J_f23 S_f23 D_f23 2 0 [.any, .any] (lk mxk lbn sd_f23)
abbrev X_f2r : Type := (Sl Int) × AU
abbrev R_f2r : Type := TEv × Bool
def J_f2r : BT Tryz.prog :=
 Bg Tryz.prog Tryz.f15 34 [(5, 3), (12, 1), (22, 1), (23, 1), (24, 1)] [] [] [] [.any, .any] [] [con_f23] R_f2r [] fun y => [V.CR (V.cons (e_TEv y.1) (V.cons (V.bool y.2) (V.unit)))]
def S_f2r : AR :=
 Aq Tryz.f15 3 0 X_f2r (fun x => [V.Cg, BL x.1, Bn x.2]) fun l => (Bi (at_ l 1), Bw (at_ l 2))
def tt_f2r (x : X_f2r) : TT Tryz.prog R_f2r :=
 (.call con_f23 x.snd.Bz fun (y1 : R_f23) =>
 (.need (!(Ae y1.snd 0)) <|
 (.ret ((TEv.mk 0 0 0 0 0), false))))
theorem sd_f2r (x : X_f2r) : (tt_f2r x).AJ :=
 (TT.sC fun _ => (TT.sN TT.sR))
def D_f2r : AS X_f2r R_f2r := .of tt_f2r
def con_f2r : BN Tryz.prog :=
 CY 15 J_f2r S_f2r D_f2r 3 0 [.any, BU, .any] (lk mxk lbn sd_f2r)
abbrev X_f2v : Type := Unit
abbrev R_f2v : Type := Bool
def J_f2v : BT Tryz.prog :=
 Bg Tryz.prog Tryz.f11 145 [(21, 1), (30, 1), (35, 1), (43, 1), (52, 1), (57, 1), (63, 1), (69, 1), (70, 1), (75, 1), (104, 1), (109, 1)] [(6, [.open_ 11])] [] [] [.any] [] [con_f12, con_f1t, con_f32, con_fa, con_f28, con_fc, con_f2q, con_f2r] R_f2v [] fun y => [V.bool y]
def S_f2v : AR :=
 Aq Tryz.f11 0 0 X_f2v (fun _x => []) fun _l => ()
def tt_f2v (_x : X_f2v) : TT Tryz.prog R_f2v :=
 (.call con_f32 PUnit.unit fun (y1 : R_f32) =>
 (.call con_fc (y1, ((Sl.mk true 0 (fun _i2 => (0 : Int))), (Sl.mk false 3 (fun i2 => (AU.mk (cond (Nat.beq i2 0) (0 : Int) (cond (Nat.beq i2 1) (0 : Int) (7 : Int))) (cond (Nat.beq i2 0) (0 : Int) (cond (Nat.beq i2 1) (0 : Int) (0 : Int))) (cond (Nat.beq i2 0) (0 : Int) (cond (Nat.beq i2 1) (0 : Int) (0 : Int))) (cond (Nat.beq i2 0) false (cond (Nat.beq i2 1) false false))))))) fun (y2 : R_fc) =>
 (.call con_fc ((TPg.mk (Sl.mk true 0 (fun _i3 => (TRg.mk 0 0 0))) (Sl.mk true 0 (fun _i3 => (Sl.mk true 0 (fun _i4 => (TIn.mk 0 0 0 0 0 0)))))), ((Sl.mk true 0 (fun _i3 => (0 : Int))), (Sl.mk true 0 (fun _i3 => (AU.mk 0 0 0 false))))) fun (y3 : R_fc) =>
 (.call con_f32 PUnit.unit fun (y4 : R_f32) =>
 (.call con_fa (y4, (Sl.mk false 1 (fun _i5 => (TEv.mk 0 14 0 0 0)))) fun (y5 : R_fa) =>
 (.call con_f32 PUnit.unit fun (y6 : R_f32) =>
 (.call con_fa (y6, (Sl.mk false 2 (fun i7 => (TEv.mk (cond (Nat.beq i7 0) (0 : Int) (0 : Int)) (cond (Nat.beq i7 0) (14 : Int) (14 : Int)) (cond (Nat.beq i7 0) (0 : Int) (0 : Int)) (cond (Nat.beq i7 0) (0 : Int) (0 : Int)) (cond (Nat.beq i7 0) (0 : Int) (0 : Int)))))) fun (y7 : R_fa) =>
 (.call con_f32 PUnit.unit fun (y8 : R_f32) =>
 (.call con_f12 y8 fun (y9 : R_f12) =>
 (.need (!y9.fst.nil) <|
 (.call con_f28 ((Sl.mk true 0 (fun _i10 => (0 : Int))), ((AU.mk 0 0 0 false), y9.fst.x)) fun (y10 : R_f28) =>
 (.call con_f2q ((Sl.mk true 0 (fun _i11 => (0 : Int))), ((AU.mk 0 0 0 false), y9.fst.x)) fun (y11 : R_f2q) =>
 (.call con_f2q ((Sl.mk true 0 (fun _i12 => (0 : Int))), ((AU.mk 0 0 0 false), y11.snd.snd)) fun (y12 : R_f2q) =>
 (.call con_f2r ((Sl.mk true 0 (fun _i13 => (0 : Int))), (AU.mk 0 0 0 false)) fun (y13 : R_f2r) =>
 (.ite (Ae y2.snd 0)
 (.call con_f1t (y2.fst.As, (Sl.mk false 1 (fun _i14 => (TEv.mk 0 14 0 0 0)))) fun (y14 : R_f1t) =>
 (.ite y14
 (.ite (Ae y2.fst.Idle 2)
 (.ite (Ae y2.fst.Ck 0)
 (.ite (Ae y3.snd 1)
 (.ite (Ae ((y5.fst.n : Nat) : Int) 0)
 (.ite (Ae ((y5.snd.fst.n : Nat) : Int) 1)
 (.ite (Ae y5.snd.snd 0)
 (.ite (Ae y7.snd.snd 11)
 (.ite (Ae y10.fst.Kind 14)
 (.ite y10.snd
 (.ite ((Ae y11.fst.Thread y10.fst.Thread) && ((Ae y11.fst.Kind y10.fst.Kind) && ((Ae y11.fst.Ring y10.fst.Ring) && ((Ae y11.fst.AG y10.fst.AG) && ((Ae y11.fst.Value y10.fst.Value) && true)))))
 (.ite y11.snd.fst
 (.ite (!y12.snd.fst)
 (.ret (!y13.snd))
 (.ret false))
 (.ret false))
 (.ret false))
 (.ret false))
 (.ret false))
 (.ret false))
 (.ret false))
 (.ret false))
 (.ret false))
 (.ret false))
 (.ret false))
 (.ret false))
 (.ret false)))
 (.ret false))))))))))))))))
theorem sd_f2v (x : X_f2v) : (tt_f2v x).AJ :=
 (TT.sC fun _ => (TT.sC fun _ => (TT.sC fun _ => (TT.sC fun _ => (TT.sC fun _ => (TT.sC fun _ => (TT.sC fun _ => (TT.sC fun _ => (TT.sC fun _ => (TT.sN (TT.sC fun _ => (TT.sC fun _ => (TT.sC fun _ => (TT.sC fun _ => (TT.sI (TT.sC fun _ => (TT.sI (TT.sI (TT.sI (TT.sI (TT.sI (TT.sI (TT.sI (TT.sI (TT.sI (TT.sI (TT.sI (TT.sI (TT.sI TT.sR TT.sR) TT.sR) TT.sR) TT.sR) TT.sR) TT.sR) TT.sR) TT.sR) TT.sR) TT.sR) TT.sR) TT.sR) TT.sR)) TT.sR)))))))))))))))
def D_f2v : AS X_f2v R_f2v := .of tt_f2v
def con_f2v : BN Tryz.prog :=
 CY 11 J_f2v S_f2v D_f2v 0 0 [] (lk mxk lbn sd_f2v)
abbrev X_f1i : Type := TPg × Int
abbrev R_f1i : Type := Bool
def J_f1i : BT Tryz.prog :=
 Bg Tryz.prog Tryz.f21 43 [(2, 3)] [] [] [] [.any] [] [] R_f1i [] fun y => [V.bool y]
def S_f1i : AR :=
 Aq Tryz.f21 2 0 X_f1i (fun x => [e_TPg x.1, (V.int .i64) x.2]) fun l => (d_TPg (at_ l 0), dI (at_ l 1))
structure X_f1i_3 where
 Gv : Int
 Gi : TPg
def S_f1i_3 : AR :=
 Ai Tryz.f21 3 (an [1, 2]) [] [] X_f1i_3 (fun x => [(V.int .i64) x.Gv, (DO e_TPg) x.Gi]) fun l => ⟨dI (at_ l 0), (DP d_TPg) (at_ l 1)⟩
structure X_f1i_5 where
 Gv : Int
 Gi : TPg
 n_5 : Int
 N5 : Int
def S_f1i_5 : AR :=
 Ai Tryz.f21 5 (an [1, 2, 5, 6]) [] [] X_f1i_5 (fun x => [(V.int .i64) x.Gv, (DO e_TPg) x.Gi, (V.int .i64) x.n_5, (V.int .i64) x.N5]) fun l => ⟨dI (at_ l 0), (DP d_TPg) (at_ l 1), dI (at_ l 2), dI (at_ l 3)⟩
def tt_f1i_5 (D_f1i_5 : AS X_f1i_5 R_f1i) (x : X_f1i_5) : TT Tryz.prog R_f1i :=
 (.ite (B8 x.N5 ((x.Gi.AB.n : Nat) : Int))
 (.need (BQ x.N5 x.Gi.AB.n) <|
 (.ite (B8 x.Gv (((x.Gi.AB.get (Int.toNat x.N5)).n : Nat) : Int))
 (.ret false)
 (.need (BQ x.N5 x.Gi.AB.n) <|
 (.Ab S_f1i_5 D_f1i_5 (X_f1i_5.mk x.Gv x.Gi (IntKind.i64.wrap (x.n_5 + (((x.Gi.AB.get (Int.toNat x.N5)).n : Nat) : Int))) (IntKind.i64.wrap (x.N5 + 1)))))))
 (.ret (B6 x.n_5 x.Gv)))
theorem sd_f1i_5 (D_f1i_5 : AS X_f1i_5 R_f1i) (x : X_f1i_5) : (tt_f1i_5 D_f1i_5 x).AJ :=
 (TT.sI (TT.sN (TT.sI TT.sR (TT.sN TT.sJ))) TT.sR)
def D_f1i_5 : AS X_f1i_5 R_f1i := AS.loop tt_f1i_5
theorem ok_f1i_5 : AX J_f1i S_f1i_5 D_f1i_5 :=
 BG fun D_f1i_5 h_5 => lk mxk (lbc h_5 rfl lbn) (sd_f1i_5 D_f1i_5)
def tt_f1i_3 (x : X_f1i_3) : TT Tryz.prog R_f1i :=
 (.Ab S_f1i_5 D_f1i_5 (X_f1i_5.mk x.Gv x.Gi 0 0))
theorem sd_f1i_3 (x : X_f1i_3) : (tt_f1i_3 x).AJ :=
 TT.sJ
def D_f1i_3 : AS X_f1i_3 R_f1i := .of tt_f1i_3
theorem ok_f1i_3 : AX J_f1i S_f1i_3 D_f1i_3 :=
 lk mxk (lbc ok_f1i_5 rfl lbn) sd_f1i_3
def tt_f1i (x : X_f1i) : TT Tryz.prog R_f1i :=
 (.ite (B8 10 ((x.fst.AF.n : Nat) : Int))
 (.ret false)
 (.ite (B8 10 ((x.fst.AB.n : Nat) : Int))
 (.ret false)
 (.Ab S_f1i_3 D_f1i_3 (X_f1i_3.mk x.snd x.fst))))
theorem sd_f1i (x : X_f1i) : (tt_f1i x).AJ :=
 (TT.sI TT.sR (TT.sI TT.sR TT.sJ))
def D_f1i : AS X_f1i R_f1i := .of tt_f1i
def con_f1i : BN Tryz.prog :=
 CY 21 J_f1i S_f1i D_f1i 2 0 [sh_TPg, .any] (lk mxk (lbc ok_f1i_5 rfl (lbc ok_f1i_3 rfl lbn)) sd_f1i)
abbrev X_f3c : Type := TRg
abbrev R_f3c : Type := Bool
def J_f3c : BT Tryz.prog :=
 Bg Tryz.prog Tryz.f146 36 [(1, 3)] [] [] [] [.any] [] [] R_f3c [] fun y => [V.bool y]
def S_f3c : AR :=
 Aq Tryz.f146 1 0 X_f3c (fun x => [e_TRg x]) fun l => (d_TRg (at_ l 0))
def tt_f3c (x : X_f3c) : TT Tryz.prog R_f3c :=
 (.ite (B6 1 x.Ee)
 (.ite (B6 x.Ee 64)
 (.ite (Ae x.Kind 1)
 (.ite (Ae x.Aa 1)
 (.ret true)
 (.ite (Ae x.Kind 2)
 (.ite (B6 1 x.Aa)
 (.ret (B6 x.Aa 8))
 (.ret false))
 (.ret false)))
 (.ite (Ae x.Kind 2)
 (.ite (B6 1 x.Aa)
 (.ret (B6 x.Aa 8))
 (.ret false))
 (.ret false)))
 (.ret false))
 (.ret false))
theorem sd_f3c (x : X_f3c) : (tt_f3c x).AJ :=
 (TT.sI (TT.sI (TT.sI (TT.sI TT.sR (TT.sI (TT.sI TT.sR TT.sR) TT.sR)) (TT.sI (TT.sI TT.sR TT.sR) TT.sR)) TT.sR) TT.sR)
def D_f3c : AS X_f3c R_f3c := .of tt_f3c
def con_f3c : BN Tryz.prog :=
 CY 146 J_f3c S_f3c D_f3c 1 0 [.any] (lk mxk lbn sd_f3c)
abbrev X_f3d : Type := Int
abbrev R_f3d : Type := ByteArray
def J_f3d : BT Tryz.prog :=
 Bg Tryz.prog Tryz.f178 53 [] [] [] [] [.any] [] [] R_f3d [] fun y => [V.str y]
def S_f3d : AR :=
 Aq Tryz.f178 1 0 X_f3d (fun x => [(V.int .i64) x]) fun l => (dI (at_ l 0))
def tt_f3d (x : X_f3d) : TT Tryz.prog R_f3d :=
 (.ite (Ae x 1)
 (.ret (ByteArray.mk #[114, 48, 48, 48, 110]))
 (.ite (Ae x 2)
 (.ret (ByteArray.mk #[114, 114, 48, 48, 48]))
 (.ite (Ae x 23)
 (.ret (ByteArray.mk #[114, 114, 48, 48, 48]))
 (.ite (B6 3 x)
 (.ite (B6 x 14)
 (.ret (ByteArray.mk #[114, 114, 114, 48, 48]))
 (.ite (Ae x 15)
 (.ret (ByteArray.mk #[48, 48, 48, 48, 112]))
 (.ite (Ae x 16)
 (.ret (ByteArray.mk #[114, 48, 48, 48, 112]))
 (.ite (Ae x 17)
 (.ret (ByteArray.mk #[114, 48, 48, 48, 112]))
 (.ite (Ae x 18)
 (.ret (ByteArray.mk #[114, 114, 103, 109, 48]))
 (.ite (Ae x 19)
 (.ret (ByteArray.mk #[114, 114, 103, 109, 100]))
 (.ite (Ae x 20)
 (.ret (ByteArray.mk #[48, 48, 103, 48, 48]))
 (.ite (Ae x 21)
 (.ret (ByteArray.mk #[114, 48, 48, 48, 48]))
 (.ite (Ae x 22)
 (.ret (ByteArray.mk #[114, 48, 48, 48, 48]))
 (.ite (Ae x 24)
 (.ret (ByteArray.mk #[114, 48, 48, 48, 48]))
 (.ite (Ae x 25)
 (.ret (ByteArray.mk #[48, 48, 48, 48, 48]))
 (.ret (ByteArray.mk #[])))))))))))))
 (.ite (Ae x 15)
 (.ret (ByteArray.mk #[48, 48, 48, 48, 112]))
 (.ite (Ae x 16)
 (.ret (ByteArray.mk #[114, 48, 48, 48, 112]))
 (.ite (Ae x 17)
 (.ret (ByteArray.mk #[114, 48, 48, 48, 112]))
 (.ite (Ae x 18)
 (.ret (ByteArray.mk #[114, 114, 103, 109, 48]))
 (.ite (Ae x 19)
 (.ret (ByteArray.mk #[114, 114, 103, 109, 100]))
 (.ite (Ae x 20)
 (.ret (ByteArray.mk #[48, 48, 103, 48, 48]))
 (.ite (Ae x 21)
 (.ret (ByteArray.mk #[114, 48, 48, 48, 48]))
 (.ite (Ae x 22)
 (.ret (ByteArray.mk #[114, 48, 48, 48, 48]))
 (.ite (Ae x 24)
 (.ret (ByteArray.mk #[114, 48, 48, 48, 48]))
 (.ite (Ae x 25)
 (.ret (ByteArray.mk #[48, 48, 48, 48, 48]))
 (.ret (ByteArray.mk #[]))))))))))))))))
theorem sd_f3d (x : X_f3d) : (tt_f3d x).AJ :=
 (TT.sI TT.sR (TT.sI TT.sR (TT.sI TT.sR (TT.sI (TT.sI TT.sR (TT.sI TT.sR (TT.sI TT.sR (TT.sI TT.sR (TT.sI TT.sR (TT.sI TT.sR (TT.sI TT.sR (TT.sI TT.sR (TT.sI TT.sR (TT.sI TT.sR (TT.sI TT.sR TT.sR))))))))))) (TT.sI TT.sR (TT.sI TT.sR (TT.sI TT.sR (TT.sI TT.sR (TT.sI TT.sR (TT.sI TT.sR (TT.sI TT.sR (TT.sI TT.sR (TT.sI TT.sR (TT.sI TT.sR TT.sR))))))))))))))
def D_f3d : AS X_f3d R_f3d := .of tt_f3d
def con_f3d : BN Tryz.prog :=
 CY 178 J_f3d S_f3d D_f3d 1 0 [.any] (lk mxk lbn sd_f3d)
abbrev X_f39 : Type := Int
abbrev R_f39 : Type := Int
def J_f39 : BT Tryz.prog :=
 Bg Tryz.prog Tryz.f179 14 [] [] [] [] [.any] [] [] R_f39 [] fun y => [(V.int .u64) y]
def S_f39 : AR :=
 Aq Tryz.f179 1 0 X_f39 (fun x => [(V.int .u8) x]) fun l => (dI (at_ l 0))
def tt_f39 (x : X_f39) : TT Tryz.prog R_f39 :=
 (.ite (Ae x 114)
 (.ret 7)
 (.ite (Ae x 103)
 (.ret 7)
 (.ite (Ae x 100)
 (.ret 7)
 (.ite (Ae x 109)
 (.ret 2)
 (.ite (Ae x 112)
 (.ret 256)
 (.ite (Ae x 110)
 (.ret 18446744073709551615)
 (.ret 0)))))))
theorem sd_f39 (x : X_f39) : (tt_f39 x).AJ :=
 (TT.sI TT.sR (TT.sI TT.sR (TT.sI TT.sR (TT.sI TT.sR (TT.sI TT.sR (TT.sI TT.sR TT.sR))))))
def D_f39 : AS X_f39 R_f39 := .of tt_f39
def con_f39 : BN Tryz.prog :=
 CY 179 J_f39 S_f39 D_f39 1 0 [.any] (lk mxk lbn sd_f39)
abbrev QM : Type := (Sl Int)
def P8 : QM → V := (Lu none 1 (V.int .i64))
def P9 : V → QM := (LU dI)
def P3 : Sh := (.sl none 1 (V.int .i64 0))
end Go.Proofs.YtiamaibincaihaaGreat
end
