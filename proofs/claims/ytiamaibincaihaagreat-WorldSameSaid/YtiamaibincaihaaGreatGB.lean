/- What functions of the program come to, part B: no statement is proved here. -/
import Derived.Test.YtiamaibincaihaaGreatGA
noncomputable section
namespace Go.Proofs.YtiamaibincaihaaGreat
open Go Go.Vm Go.Proofs
set_option maxRecDepth 100000
abbrev X_fj : Type := TAk × TEv
abbrev R_fj : Type := Bool
def J_fj : BM Tryz.prog :=
 BS Tryz.prog Tryz.f161 79 [(2, 3), (3, 3)] [] [] [] [.any] [] [con_f39, con_f2t] R_fj [] fun y => [V.bool y]
def S_fj : AO :=
 Aj Tryz.f161 2 0 X_fj (fun x => [e_TAk x.1, e_TEv x.2]) fun l => (d_TAk (at_ l 0), d_TEv (at_ l 1))
structure X_fj_3 where
 Df : TAk
 D1 : TEv
def S_fj_3 : AO :=
 Ad Tryz.f161 3 (an [2, 3]) [] [] X_fj_3 (fun x => [(Ch e_TAk) x.Df, (Ch e_TEv) x.D1]) fun l => ⟨(Ci d_TAk) (at_ l 0), (Ci d_TEv) (at_ l 1)⟩
structure X_fj_4 where
 Df : TAk
 D1 : TEv
 Kb : Bool
def S_fj_4 : AO :=
 Ad Tryz.f161 4 (an [2, 3, 5]) [] [] X_fj_4 (fun x => [(Ch e_TAk) x.Df, (Ch e_TEv) x.D1, V.bool x.Kb]) fun l => ⟨(Ci d_TAk) (at_ l 0), (Ci d_TEv) (at_ l 1), dB (at_ l 2)⟩
structure X_fj_16 where
 Df : TAk
 D1 : TEv
def S_fj_16 : AO :=
 Ad Tryz.f161 16 (an [2, 3]) [] [] X_fj_16 (fun x => [(Ch e_TAk) x.Df, (Ch e_TEv) x.D1]) fun l => ⟨(Ci d_TAk) (at_ l 0), (Ci d_TEv) (at_ l 1)⟩
def tt_fj_16 (x : X_fj_16) : TT Tryz.prog R_fj :=
 (.call con_f2t x.D1.Kind fun (y1 : R_f2t) =>
 (.ret (AW x.Df.Kind y1)))
theorem sd_fj_16 (x : X_fj_16) : (tt_fj_16 x).AJ :=
 (TT.sC fun _ => TT.sR)
def D_fj_16 : AU X_fj_16 R_fj := .of tt_fj_16
theorem ok_fj_16 : AY J_fj S_fj_16 D_fj_16 :=
 lk mxk lbn sd_fj_16
def tt_fj_4 (x : X_fj_4) : TT Tryz.prog R_fj :=
 (.ite (AW x.D1.Kind 5)
 (.ite x.Kb
 (.ret (AW x.Df.Mode 0))
 (.ret false))
 (.ite (AW x.D1.Kind 6)
 (.ret x.Kb)
 (.ite (AW x.D1.Kind 7)
 (.ite x.Kb
 (.ret (AW x.Df.Mode 2))
 (.ret false))
 (.ite (AW x.D1.Kind 2)
 (.call con_f2t x.D1.Kind fun (y1 : R_f2t) =>
 (.ite (AW x.Df.Kind y1)
 (.ret (AW x.Df.AG x.D1.AG))
 (.ret false)))
 (.ite (AW x.D1.Kind 4)
 (.call con_f2t x.D1.Kind fun (y1 : R_f2t) =>
 (.ite (AW x.Df.Kind y1)
 (.ret (AW x.Df.AG x.D1.AG))
 (.ret false)))
 (.ite (AW x.D1.Kind 12)
 (.ite (AW x.Df.Kind 7)
 (.ret (AW x.Df.Value x.D1.Value))
 (.ret false))
 (.AM S_fj_16 D_fj_16 (X_fj_16.mk x.Df x.D1))))))))
theorem sd_fj_4 (x : X_fj_4) : (tt_fj_4 x).AJ :=
 (TT.sI (TT.sI TT.sR TT.sR) (TT.sI TT.sR (TT.sI (TT.sI TT.sR TT.sR) (TT.sI (TT.sC fun _ => (TT.sI TT.sR TT.sR)) (TT.sI (TT.sC fun _ => (TT.sI TT.sR TT.sR)) (TT.sI (TT.sI TT.sR TT.sR) TT.sJ))))))
def D_fj_4 : AU X_fj_4 R_fj := .of tt_fj_4
theorem ok_fj_4 : AY J_fj S_fj_4 D_fj_4 :=
 lk mxk (lbc ok_fj_16 rfl lbn) sd_fj_4
def tt_fj_3 (x : X_fj_3) : TT Tryz.prog R_fj :=
 (.ite (AW x.Df.Kind 1)
 (.AM S_fj_4 D_fj_4 (X_fj_4.mk x.Df x.D1 true))
 (.AM S_fj_4 D_fj_4 (X_fj_4.mk x.Df x.D1 (AW x.Df.Kind 2))))
theorem sd_fj_3 (x : X_fj_3) : (tt_fj_3 x).AJ :=
 (TT.sI TT.sJ TT.sJ)
def D_fj_3 : AU X_fj_3 R_fj := .of tt_fj_3
theorem ok_fj_3 : AY J_fj S_fj_3 D_fj_3 :=
 lk mxk (lbc ok_fj_16 rfl (lbc ok_fj_4 rfl lbn)) sd_fj_3
def tt_fj (x : X_fj) : TT Tryz.prog R_fj :=
 (.call con_f39 x.snd.Kind fun (y1 : R_f39) =>
 (.ite y1
 (.ite (!(AW x.fst.Ring x.snd.Ring))
 (.ret false)
 (.AM S_fj_3 D_fj_3 (X_fj_3.mk x.fst x.snd)))
 (.AM S_fj_3 D_fj_3 (X_fj_3.mk x.fst x.snd))))
theorem sd_fj (x : X_fj) : (tt_fj x).AJ :=
 (TT.sC fun _ => (TT.sI (TT.sI TT.sR TT.sJ) TT.sJ))
def D_fj : AU X_fj R_fj := .of tt_fj
def con_fj : BE Tryz.prog :=
 B2 161 J_fj S_fj D_fj 2 0 [.any, .any] (lk mxk (lbc ok_fj_16 rfl (lbc ok_fj_4 rfl (lbc ok_fj_3 rfl lbn))) sd_fj)
abbrev X_fo : Type := TIn × TEv × Int × TTh
abbrev R_fo : Type := TTh
def J_fo : BM Tryz.prog :=
 BS Tryz.prog Tryz.f162 121 [(4, 3), (6, 3), (98, 1)] [] [] [] [] [sh_TTh_6] [] R_fo [] fun y => [V.Cb (V.unit), e_TTh_6 y]
def S_fo : AO :=
 Aj Tryz.f162 4 1 X_fo (fun x => [e_TIn x.1, (V.ptr (.par 0) []), e_TEv x.2.1, (V.int .u64) x.2.2.1, e_TTh_6 x.2.2.2]) fun l => (d_TIn (at_ l 0), d_TEv (at_ l 2), dI (at_ l 3), d_TTh (at_ l 4))
structure X_fo_23 where
 Ah : TTh
def S_fo_23 : AO :=
 Ad Tryz.f162 23 [(1, .any)] [sh_TTh_6] [] X_fo_23 (fun x => [(V.ptr (.par 0) []), e_TTh_6 x.Ah]) fun l => ⟨d_TTh (at_ l 1)⟩
def tt_fo_23 (x : X_fo_23) : TT Tryz.prog R_fo :=
 (.ret (TTh.mk (IntKind.i64.wrap (x.Ah.At + 1)) 0 0 x.Ah.Status 0 x.Ah.Ae x.Ah.Seen))
theorem sd_fo_23 (x : X_fo_23) : (tt_fo_23 x).AJ :=
 TT.sR
def D_fo_23 : AU X_fo_23 R_fo := .of tt_fo_23
theorem ok_fo_23 : AY J_fo S_fo_23 D_fo_23 :=
 lk mxk lbn sd_fo_23
def tt_fo (x : X_fo) : TT Tryz.prog R_fo :=
 (.ite (AW x.snd.fst.Kind 2)
 (.need (A6 x.fst.B 8) <|
 (.AM S_fo_23 D_fo_23 (X_fo_23.mk (TTh.mk x.snd.snd.snd.At x.snd.snd.snd.Phase x.snd.snd.snd.Ring x.snd.snd.snd.Status x.snd.snd.snd.AG (fun i1 => (cond (Nat.beq i1 (Int.toNat x.fst.B)) (0 : Int) (x.snd.snd.snd.Ae i1))) x.snd.snd.snd.Seen))))
 (.ite (AW x.snd.fst.Kind 4)
 (.need (A6 x.fst.A 8) <|
 (.need (A6 x.fst.B 8) <|
 (.AM S_fo_23 D_fo_23 (X_fo_23.mk (TTh.mk x.snd.snd.snd.At x.snd.snd.snd.Phase x.snd.snd.snd.Ring x.snd.snd.snd.Status x.snd.snd.snd.AG (fun i1 => (cond (Nat.beq i1 (Int.toNat x.fst.B)) (0 : Int) (cond (Nat.beq i1 (Int.toNat x.fst.A)) x.snd.snd.fst (x.snd.snd.snd.Ae i1)))) x.snd.snd.snd.Seen)))))
 (.ite (AW x.snd.fst.Kind 5)
 (.need (A6 x.fst.B 8) <|
 (.AM S_fo_23 D_fo_23 (X_fo_23.mk (TTh.mk x.snd.snd.snd.At x.snd.snd.snd.Phase x.snd.snd.snd.Ring x.snd.snd.snd.Status x.snd.snd.snd.AG (fun i1 => (cond (Nat.beq i1 (Int.toNat x.fst.B)) (1 : Int) (x.snd.snd.snd.Ae i1))) x.snd.snd.snd.Seen))))
 (.ite (AW x.snd.fst.Kind 6)
 (.need (A6 x.fst.B 8) <|
 (.AM S_fo_23 D_fo_23 (X_fo_23.mk (TTh.mk x.snd.snd.snd.At x.snd.snd.snd.Phase x.snd.snd.snd.Ring x.snd.snd.snd.Status x.snd.snd.snd.AG (fun i1 => (cond (Nat.beq i1 (Int.toNat x.fst.B)) (2 : Int) (x.snd.snd.snd.Ae i1))) x.snd.snd.snd.Seen))))
 (.ite (AW x.snd.fst.Kind 7)
 (.need (A6 x.fst.B 8) <|
 (.AM S_fo_23 D_fo_23 (X_fo_23.mk (TTh.mk x.snd.snd.snd.At x.snd.snd.snd.Phase x.snd.snd.snd.Ring x.snd.snd.snd.Status x.snd.snd.snd.AG (fun i1 => (cond (Nat.beq i1 (Int.toNat x.fst.B)) (3 : Int) (x.snd.snd.snd.Ae i1))) x.snd.snd.snd.Seen))))
 (.ite (AW x.snd.fst.Kind 8)
 (.need (A6 x.fst.A 8) <|
 (.AM S_fo_23 D_fo_23 (X_fo_23.mk (TTh.mk x.snd.snd.snd.At x.snd.snd.snd.Phase x.snd.snd.snd.Ring x.snd.snd.snd.Status x.snd.snd.snd.AG (fun i1 => (cond (Nat.beq i1 (Int.toNat x.fst.A)) x.snd.fst.Value (x.snd.snd.snd.Ae i1))) x.snd.snd.snd.Seen))))
 (.ite (AW x.snd.fst.Kind 9)
 (.need (A6 x.fst.A 8) <|
 (.AM S_fo_23 D_fo_23 (X_fo_23.mk (TTh.mk x.snd.snd.snd.At x.snd.snd.snd.Phase x.snd.snd.snd.Ring x.snd.snd.snd.Status x.snd.snd.snd.AG (fun i1 => (cond (Nat.beq i1 (Int.toNat x.fst.A)) x.snd.fst.Value (x.snd.snd.snd.Ae i1))) x.snd.snd.snd.Seen))))
 (.ite (AW x.snd.fst.Kind 10)
 (.need (A6 x.fst.A 8) <|
 (.need (A6 x.fst.B 8) <|
 (.AM S_fo_23 D_fo_23 (X_fo_23.mk (TTh.mk x.snd.snd.snd.At x.snd.snd.snd.Phase x.snd.snd.snd.Ring x.snd.snd.snd.Status x.snd.snd.snd.AG (fun i1 => (cond (Nat.beq i1 (Int.toNat x.fst.B)) (0 : Int) (cond (Nat.beq i1 (Int.toNat x.fst.A)) x.snd.fst.Value (x.snd.snd.snd.Ae i1)))) x.snd.snd.snd.Seen)))))
 (.ite (AW x.snd.fst.Kind 11)
 (.need (A6 x.fst.B 8) <|
 (.AM S_fo_23 D_fo_23 (X_fo_23.mk (TTh.mk x.snd.snd.snd.At x.snd.snd.snd.Phase x.snd.snd.snd.Ring x.snd.snd.snd.Status x.snd.snd.snd.AG (fun i1 => (cond (Nat.beq i1 (Int.toNat x.fst.B)) (1 : Int) (x.snd.snd.snd.Ae i1))) x.snd.snd.snd.Seen))))
 (.ite (AW x.snd.fst.Kind 12)
 (.need (true && (room (x.snd.snd.snd.Seen.n + 1) 8)) <|
 (.AM S_fo_23 D_fo_23 (X_fo_23.mk (TTh.mk x.snd.snd.snd.At x.snd.snd.snd.Phase x.snd.snd.snd.Ring x.snd.snd.snd.Status x.snd.snd.snd.AG x.snd.snd.snd.Ae (Sl.mk (cond (Nat.beq 1 0) x.snd.snd.snd.Seen.nil false) (x.snd.snd.snd.Seen.n + 1) (fun i1 => (cond (Nat.blt i1 x.snd.snd.snd.Seen.n) (x.snd.snd.snd.Seen.get i1) x.snd.fst.Value)))))))
 (.AM S_fo_23 D_fo_23 (X_fo_23.mk x.snd.snd.snd))))))))))))
theorem sd_fo (x : X_fo) : (tt_fo x).AJ :=
 (TT.sI (TT.sN TT.sJ) (TT.sI (TT.sN (TT.sN TT.sJ)) (TT.sI (TT.sN TT.sJ) (TT.sI (TT.sN TT.sJ) (TT.sI (TT.sN TT.sJ) (TT.sI (TT.sN TT.sJ) (TT.sI (TT.sN TT.sJ) (TT.sI (TT.sN (TT.sN TT.sJ)) (TT.sI (TT.sN TT.sJ) (TT.sI (TT.sN TT.sJ) TT.sJ))))))))))
def D_fo : AU X_fo R_fo := .of tt_fo
def con_fo : BE Tryz.prog :=
 B2 162 J_fo S_fo D_fo 4 1 [.any, .any, .any, .any] (lk mxk (lbc ok_fo_23 rfl lbn) sd_fo)
abbrev X_f2a : Type := (Sl TIn) × TTh × TEv × Int
abbrev R_f2a : Type := TTh × Int
def J_f2a : BM Tryz.prog :=
 BS Tryz.prog Tryz.f113 75 [(6, 3), (12, 1), (42, 1)] [] [] [] [sh_TTh, .any] [] [con_f3a, con_f38, con_fo, con_fj] R_f2a [] fun y => [V.Cb (V.cons (e_TTh y.1) (V.cons ((V.int .i64) y.2) (V.unit)))]
def S_f2a : AO :=
 Aj Tryz.f113 4 0 X_f2a (fun x => [esl_TIn x.1, e_TTh x.2.1, e_TEv x.2.2.1, (V.int .u64) x.2.2.2]) fun l => (dsl_TIn (at_ l 0), d_TTh (at_ l 1), d_TEv (at_ l 2), dI (at_ l 3))
structure X_f2a_8 where
 CD : (Sl TIn)
 Vs : Int
 I9 : TEv
 BI : TTh
 G0 : TTh
def S_f2a_8 : AO :=
 Ad Tryz.f113 8 [(0, hsl_TIn), (3, .any), (5, .any), (6, .any), (8, .any)] [] [(.loc 5 0, sh_TTh_6), (.loc 8 0, sh_TTh_6)] X_f2a_8 (fun x => [esl_TIn x.CD, (V.int .u64) x.Vs, (V.ptr (.loc 5 0) []), (Ch e_TEv) x.I9, (V.ptr (.loc 8 0) []), e_TTh_6 x.BI, e_TTh_6 x.G0]) fun l => ⟨dsl_TIn (at_ l 0), dI (at_ l 1), (Ci d_TEv) (at_ l 3), d_TTh (at_ l 5), d_TTh (at_ l 6)⟩
def tt_f2a_8 (x : X_f2a_8) : TT Tryz.prog R_f2a :=
 (.ite (AW x.I9.Kind 1)
 (.ret ((TTh.mk x.BI.At 1 x.I9.Ring x.BI.Status x.I9.AG x.BI.Ae x.BI.Seen), 0))
 (.ite (AW x.I9.Kind 3)
 (.ret ((TTh.mk x.BI.At 2 x.I9.Ring x.BI.Status x.I9.AG x.BI.Ae x.BI.Seen), 0))
 (.ite (AW x.I9.Kind 14)
 (.ret ((TTh.mk x.BI.At x.BI.Phase x.BI.Ring 1 x.BI.AG x.BI.Ae x.BI.Seen), 0))
 (.ite (AW x.I9.Kind 15)
 (.ret ((TTh.mk x.BI.At x.BI.Phase x.BI.Ring 2 x.BI.AG x.BI.Ae x.BI.Seen), 0))
 (.need (A6 x.BI.At x.CD.n) <|
 (.call con_fo ((x.CD.get (Int.toNat x.BI.At)), (x.I9, (x.Vs, x.BI))) fun (y1 : R_fo) =>
 (.ret (y1, 0))))))))
theorem sd_f2a_8 (x : X_f2a_8) : (tt_f2a_8 x).AJ :=
 (TT.sI TT.sR (TT.sI TT.sR (TT.sI TT.sR (TT.sI TT.sR (TT.sN (TT.sC fun _ => TT.sR))))))
def D_f2a_8 : AU X_f2a_8 R_f2a := .of tt_f2a_8
theorem ok_f2a_8 : AY J_f2a S_f2a_8 D_f2a_8 :=
 lk mxk lbn sd_f2a_8
def tt_f2a (x : X_f2a) : TT Tryz.prog R_f2a :=
 (.call con_f38 (x.fst, x.snd.fst) fun (y1 : R_f38) =>
 (.ite (!(AW y1.snd.snd 0))
 (.ret ((TTh.mk 0 0 0 0 0 (fun _i2 => (0 : Int)) (Sl.mk true 0 (fun _i2 => (0 : Int)))), y1.snd.snd))
 (.call con_f3a x.snd.snd.fst fun (y2 : R_f3a) =>
 (.ite (!y2)
 (.ret ((TTh.mk 0 0 0 0 0 (fun _i3 => (0 : Int)) (Sl.mk true 0 (fun _i3 => (0 : Int)))), 3))
 (.ite (AW y1.snd.fst.Kind 0)
 (.ret ((TTh.mk 0 0 0 0 0 (fun _i3 => (0 : Int)) (Sl.mk true 0 (fun _i3 => (0 : Int)))), 11))
 (.call con_fj (y1.snd.fst, x.snd.snd.fst) fun (y3 : R_fj) =>
 (.ite (!y3)
 (.ret ((TTh.mk 0 0 0 0 0 (fun _i4 => (0 : Int)) (Sl.mk true 0 (fun _i4 => (0 : Int)))), 11))
 (.AM S_f2a_8 D_f2a_8 (X_f2a_8.mk x.fst x.snd.snd.snd x.snd.snd.fst y1.fst (TTh.mk 0 0 0 0 0 (fun _i4 => (0 : Int)) (Sl.mk true 0 (fun _i4 => (0 : Int)))))))))))))
theorem sd_f2a (x : X_f2a) : (tt_f2a x).AJ :=
 (TT.sC fun _ => (TT.sI TT.sR (TT.sC fun _ => (TT.sI TT.sR (TT.sI TT.sR (TT.sC fun _ => (TT.sI TT.sR TT.sJ)))))))
def D_f2a : AU X_f2a R_f2a := .of tt_f2a
def con_f2a : BE Tryz.prog :=
 B2 113 J_f2a S_f2a D_f2a 4 0 [hsl_TIn, sh_TTh, .any, .any] (lk mxk (lbc ok_f2a_8 rfl lbn) sd_f2a)
abbrev X_f16 : Type := TEv × TFa
abbrev R_f16 : Type := Int
abbrev RR_f16 : Type := Int × TFa
abbrev p_f16 (y : RR_f16) : TFa := y.2
abbrev w_f16 (x : X_f16) : TFa := x.2
def J_f16 : BM Tryz.prog :=
 BS Tryz.prog Tryz.f62 43 [(3, 3), (20, 1)] [(8, [.back (.loc 33 0)])] [(7, [.Ia (.par 0) [.CI 1 2] 33])] [.back (.loc 33 0)] [.any] [sh_TFa] [con_f3a, con_f1a, con_f2a] RR_f16 [(0, [⟨.loc 33 0, .par 0, [.CI 1 2], none, none⟩])] fun y => [(V.int .i64) y.1, e_TFa y.2]
def S_f16 : AO :=
 Aj Tryz.f62 2 1 X_f16 (fun x => [(V.ptr (.par 0) []), e_TEv x.1, e_TFa x.2]) fun l => (d_TEv (at_ l 1), d_TFa (at_ l 2))
def tt_f16 (x : X_f16) : TT Tryz.prog RR_f16 :=
 (.call con_f3a x.fst fun (y1 : R_f3a) =>
 (.ite (!y1)
 (.ret (3, x.snd))
 (.call con_f1a (x.fst.Thread, x.snd) fun (y2 : R_f1a) =>
 (.ite (!y2)
 (.ret (5, x.snd))
 (.need (A6 x.fst.Thread x.snd.p.AB.n) <|
 (.need (A6 x.fst.Thread x.snd.threads.n) <|
 (.need ((Nat.beq x.snd.threads.n x.snd.threads.n) && true) <|
 (.call con_f2a ((x.snd.p.AB.get (Int.toNat x.fst.Thread)), ((x.snd.threads.get ((0 : Nat) + (Int.toNat x.fst.Thread))), (x.fst, 0))) fun (y3 : R_f2a) =>
 (.need ((true && true) && (Nat.beq x.snd.threads.n x.snd.threads.n)) <|
 (.ret (y3.snd, x.snd)))))))))))
theorem sd_f16 (x : X_f16) : (tt_f16 x).AJ :=
 (TT.sC fun _ => (TT.sI TT.sR (TT.sC fun _ => (TT.sI TT.sR (TT.sN (TT.sN (TT.sN (TT.sC fun _ => (TT.sN TT.sR)))))))))
theorem roT_f16 (x : X_f16) : TT.Ro p_f16 (w_f16 x) (tt_f16 x) :=
 (TT.rC fun _ => (TT.rI (TT.rR rfl) (TT.rC fun _ => (TT.rI (TT.rR rfl) (TT.rN (TT.rN (TT.rN (TT.rC fun _ => (TT.rN (TT.rR rfl))))))))))
def D_f16 : AU X_f16 R_f16 := .ro (.of tt_f16) (fun y => (y.1)) (fun y x => (y, x.2)) fun x y h => congrArg (fun o => (y.1, o)) (roT_f16 x y h)
def con_f16 : BE Tryz.prog :=
 Di 62 J_f16 S_f16 (.of tt_f16) D_f16 (fun y x => (y, x.2)) (fun y => (V.int .i64) y) 2 1 [.any, .any] (lk mxk lbn sd_f16) (fun x => ⟨(nu_e_TFa : ∀ y, (e_TFa y).Cl) (x.2), trivial⟩)
abbrev X_f17 : Type := TAk × TFa
abbrev R_f17 : Type := Bool
abbrev RR_f17 : Type := Bool × TFa
abbrev p_f17 (y : RR_f17) : TFa := y.2
abbrev w_f17 (x : X_f17) : TFa := x.2
def J_f17 : BM Tryz.prog :=
 BS Tryz.prog Tryz.f114 27 [(3, 3)] [] [(1, [.Ia (.par 0) [.CI 2 3] 9])] [.back (.loc 13 0), .back (.loc 9 0)] [.any] [sh_TFa] [con_f15, con_f18, con_f1m] RR_f17 [(0, [⟨.loc 9 0, .par 0, [.CI 2 3], none, none⟩])] fun y => [V.bool y.1, e_TFa y.2]
def S_f17 : AO :=
 Aj Tryz.f114 2 1 X_f17 (fun x => [(V.ptr (.par 0) []), e_TAk x.1, e_TFa x.2]) fun l => (d_TAk (at_ l 1), d_TFa (at_ l 2))
def tt_f17 (x : X_f17) : TT Tryz.prog RR_f17 :=
 (.need (A6 x.fst.Ring x.snd.rings.n) <|
 (.need (((Nat.beq x.snd.rings.n x.snd.rings.n) && true) && (!(x.snd.rings.get ((0 : Nat) + (Int.toNat x.fst.Ring))).nil)) <|
 (.ite (AW x.fst.Kind 1)
 (.call con_f15 (x.snd.rings.get ((0 : Nat) + (Int.toNat x.fst.Ring))).x fun (y1 : R_f15) =>
 (.ite y1
 (.need ((true && true) && (((Nat.beq x.snd.rings.n x.snd.rings.n) && (Nat.blt ((0 : Nat) + (Int.toNat x.fst.Ring)) x.snd.rings.n)) && (!(x.snd.rings.get ((0 : Nat) + (Int.toNat x.fst.Ring))).nil))) <|
 (.side (((fun v : Nat → V => v = v) (fun i2 => (cond (Nat.beq i2 ((0 : Nat) + (Int.toNat x.fst.Ring))) (V.ptr (Id.loc 13 0) List.nil) (V.Am (x.snd.rings.get i2).nil (V.cons (V.cons (V.int IntKind.u64 (x.snd.rings.get i2).x.AA.tail) (V.cons (V.BA 36 1 (x.snd.rings.get i2).x.AA.AD.nil (x.snd.rings.get i2).x.AA.AD.n (fun i3 => (V.int IntKind.u64 ((x.snd.rings.get i2).x.AA.AD.get i3)))) V.unit)) (V.cons (V.Am (x.snd.rings.get i2).x.s.nil (V.cons (V.BA 175 3 (x.snd.rings.get i2).x.s.x.l.nil (x.snd.rings.get i2).x.s.x.l.n (fun i3 => (V.cons (V.int IntKind.u64 ((x.snd.rings.get i2).x.s.x.l.get i3).AP) (V.cons (V.int IntKind.u64 ((x.snd.rings.get i2).x.s.x.l.get i3).Value) (V.cons (V.int IntKind.i64 ((x.snd.rings.get i2).x.s.x.l.get i3).Left) V.unit))))) (V.cons (V.int IntKind.i64 (x.snd.rings.get i2).x.s.x.AX) V.unit))) (V.cons (V.int IntKind.u64 (x.snd.rings.get i2).x.most) (V.cons (V.bool (x.snd.rings.get i2).x.closed) V.unit)))))))) ∧ (((fun v : V => v = v) (V.cons (V.cons (V.int IntKind.u64 (x.snd.rings.get ((0 : Nat) + (Int.toNat x.fst.Ring))).x.AA.tail) (V.cons (V.BA 36 1 (x.snd.rings.get ((0 : Nat) + (Int.toNat x.fst.Ring))).x.AA.AD.nil (x.snd.rings.get ((0 : Nat) + (Int.toNat x.fst.Ring))).x.AA.AD.n (fun i2 => (V.int IntKind.u64 ((x.snd.rings.get ((0 : Nat) + (Int.toNat x.fst.Ring))).x.AA.AD.get i2)))) V.unit)) (V.cons (V.Am (x.snd.rings.get ((0 : Nat) + (Int.toNat x.fst.Ring))).x.s.nil (V.cons (V.BA 175 3 (x.snd.rings.get ((0 : Nat) + (Int.toNat x.fst.Ring))).x.s.x.l.nil (x.snd.rings.get ((0 : Nat) + (Int.toNat x.fst.Ring))).x.s.x.l.n (fun i2 => (V.cons (V.int IntKind.u64 ((x.snd.rings.get ((0 : Nat) + (Int.toNat x.fst.Ring))).x.s.x.l.get i2).AP) (V.cons (V.int IntKind.u64 ((x.snd.rings.get ((0 : Nat) + (Int.toNat x.fst.Ring))).x.s.x.l.get i2).Value) (V.cons (V.int IntKind.i64 ((x.snd.rings.get ((0 : Nat) + (Int.toNat x.fst.Ring))).x.s.x.l.get i2).Left) V.unit))))) (V.cons (V.int IntKind.i64 (x.snd.rings.get ((0 : Nat) + (Int.toNat x.fst.Ring))).x.s.x.AX) V.unit))) (V.cons (V.int IntKind.u64 (x.snd.rings.get ((0 : Nat) + (Int.toNat x.fst.Ring))).x.most) (V.cons (V.bool (x.snd.rings.get ((0 : Nat) + (Int.toNat x.fst.Ring))).x.closed) V.unit))))) ∧ ((fun v : V => v = v) (V.Am (x.snd.rings.get ((0 : Nat) + (Int.toNat x.fst.Ring))).nil (V.cons (V.cons (V.int IntKind.u64 (x.snd.rings.get ((0 : Nat) + (Int.toNat x.fst.Ring))).x.AA.tail) (V.cons (V.BA 36 1 (x.snd.rings.get ((0 : Nat) + (Int.toNat x.fst.Ring))).x.AA.AD.nil (x.snd.rings.get ((0 : Nat) + (Int.toNat x.fst.Ring))).x.AA.AD.n (fun i2 => (V.int IntKind.u64 ((x.snd.rings.get ((0 : Nat) + (Int.toNat x.fst.Ring))).x.AA.AD.get i2)))) V.unit)) (V.cons (V.Am (x.snd.rings.get ((0 : Nat) + (Int.toNat x.fst.Ring))).x.s.nil (V.cons (V.BA 175 3 (x.snd.rings.get ((0 : Nat) + (Int.toNat x.fst.Ring))).x.s.x.l.nil (x.snd.rings.get ((0 : Nat) + (Int.toNat x.fst.Ring))).x.s.x.l.n (fun i2 => (V.cons (V.int IntKind.u64 ((x.snd.rings.get ((0 : Nat) + (Int.toNat x.fst.Ring))).x.s.x.l.get i2).AP) (V.cons (V.int IntKind.u64 ((x.snd.rings.get ((0 : Nat) + (Int.toNat x.fst.Ring))).x.s.x.l.get i2).Value) (V.cons (V.int IntKind.i64 ((x.snd.rings.get ((0 : Nat) + (Int.toNat x.fst.Ring))).x.s.x.l.get i2).Left) V.unit))))) (V.cons (V.int IntKind.i64 (x.snd.rings.get ((0 : Nat) + (Int.toNat x.fst.Ring))).x.s.x.AX) V.unit))) (V.cons (V.int IntKind.u64 (x.snd.rings.get ((0 : Nat) + (Int.toNat x.fst.Ring))).x.most) (V.cons (V.bool (x.snd.rings.get ((0 : Nat) + (Int.toNat x.fst.Ring))).x.closed) V.unit)))))))) <|
 (.need ((true && true) && (Nat.beq x.snd.rings.n x.snd.rings.n)) <|
 (.ret (true, x.snd)))))
 (.call con_f1m (x.snd.rings.get ((0 : Nat) + (Int.toNat x.fst.Ring))).x fun (y2 : R_f1m) =>
 (.need ((true && true) && (((Nat.beq x.snd.rings.n x.snd.rings.n) && (Nat.blt ((0 : Nat) + (Int.toNat x.fst.Ring)) x.snd.rings.n)) && (!(x.snd.rings.get ((0 : Nat) + (Int.toNat x.fst.Ring))).nil))) <|
 (.side (((fun v : Nat → V => v = v) (fun i3 => (cond (Nat.beq i3 ((0 : Nat) + (Int.toNat x.fst.Ring))) (V.ptr (Id.loc 13 0) List.nil) (V.Am (x.snd.rings.get i3).nil (V.cons (V.cons (V.int IntKind.u64 (x.snd.rings.get i3).x.AA.tail) (V.cons (V.BA 36 1 (x.snd.rings.get i3).x.AA.AD.nil (x.snd.rings.get i3).x.AA.AD.n (fun i4 => (V.int IntKind.u64 ((x.snd.rings.get i3).x.AA.AD.get i4)))) V.unit)) (V.cons (V.Am (x.snd.rings.get i3).x.s.nil (V.cons (V.BA 175 3 (x.snd.rings.get i3).x.s.x.l.nil (x.snd.rings.get i3).x.s.x.l.n (fun i4 => (V.cons (V.int IntKind.u64 ((x.snd.rings.get i3).x.s.x.l.get i4).AP) (V.cons (V.int IntKind.u64 ((x.snd.rings.get i3).x.s.x.l.get i4).Value) (V.cons (V.int IntKind.i64 ((x.snd.rings.get i3).x.s.x.l.get i4).Left) V.unit))))) (V.cons (V.int IntKind.i64 (x.snd.rings.get i3).x.s.x.AX) V.unit))) (V.cons (V.int IntKind.u64 (x.snd.rings.get i3).x.most) (V.cons (V.bool (x.snd.rings.get i3).x.closed) V.unit)))))))) ∧ (((fun v : V => v = v) (V.cons (V.cons (V.int IntKind.u64 (x.snd.rings.get ((0 : Nat) + (Int.toNat x.fst.Ring))).x.AA.tail) (V.cons (V.BA 36 1 (x.snd.rings.get ((0 : Nat) + (Int.toNat x.fst.Ring))).x.AA.AD.nil (x.snd.rings.get ((0 : Nat) + (Int.toNat x.fst.Ring))).x.AA.AD.n (fun i3 => (V.int IntKind.u64 ((x.snd.rings.get ((0 : Nat) + (Int.toNat x.fst.Ring))).x.AA.AD.get i3)))) V.unit)) (V.cons (V.Am (x.snd.rings.get ((0 : Nat) + (Int.toNat x.fst.Ring))).x.s.nil (V.cons (V.BA 175 3 (x.snd.rings.get ((0 : Nat) + (Int.toNat x.fst.Ring))).x.s.x.l.nil (x.snd.rings.get ((0 : Nat) + (Int.toNat x.fst.Ring))).x.s.x.l.n (fun i3 => (V.cons (V.int IntKind.u64 ((x.snd.rings.get ((0 : Nat) + (Int.toNat x.fst.Ring))).x.s.x.l.get i3).AP) (V.cons (V.int IntKind.u64 ((x.snd.rings.get ((0 : Nat) + (Int.toNat x.fst.Ring))).x.s.x.l.get i3).Value) (V.cons (V.int IntKind.i64 ((x.snd.rings.get ((0 : Nat) + (Int.toNat x.fst.Ring))).x.s.x.l.get i3).Left) V.unit))))) (V.cons (V.int IntKind.i64 (x.snd.rings.get ((0 : Nat) + (Int.toNat x.fst.Ring))).x.s.x.AX) V.unit))) (V.cons (V.int IntKind.u64 (x.snd.rings.get ((0 : Nat) + (Int.toNat x.fst.Ring))).x.most) (V.cons (V.bool (x.snd.rings.get ((0 : Nat) + (Int.toNat x.fst.Ring))).x.closed) V.unit))))) ∧ ((fun v : V => v = v) (V.Am (x.snd.rings.get ((0 : Nat) + (Int.toNat x.fst.Ring))).nil (V.cons (V.cons (V.int IntKind.u64 (x.snd.rings.get ((0 : Nat) + (Int.toNat x.fst.Ring))).x.AA.tail) (V.cons (V.BA 36 1 (x.snd.rings.get ((0 : Nat) + (Int.toNat x.fst.Ring))).x.AA.AD.nil (x.snd.rings.get ((0 : Nat) + (Int.toNat x.fst.Ring))).x.AA.AD.n (fun i3 => (V.int IntKind.u64 ((x.snd.rings.get ((0 : Nat) + (Int.toNat x.fst.Ring))).x.AA.AD.get i3)))) V.unit)) (V.cons (V.Am (x.snd.rings.get ((0 : Nat) + (Int.toNat x.fst.Ring))).x.s.nil (V.cons (V.BA 175 3 (x.snd.rings.get ((0 : Nat) + (Int.toNat x.fst.Ring))).x.s.x.l.nil (x.snd.rings.get ((0 : Nat) + (Int.toNat x.fst.Ring))).x.s.x.l.n (fun i3 => (V.cons (V.int IntKind.u64 ((x.snd.rings.get ((0 : Nat) + (Int.toNat x.fst.Ring))).x.s.x.l.get i3).AP) (V.cons (V.int IntKind.u64 ((x.snd.rings.get ((0 : Nat) + (Int.toNat x.fst.Ring))).x.s.x.l.get i3).Value) (V.cons (V.int IntKind.i64 ((x.snd.rings.get ((0 : Nat) + (Int.toNat x.fst.Ring))).x.s.x.l.get i3).Left) V.unit))))) (V.cons (V.int IntKind.i64 (x.snd.rings.get ((0 : Nat) + (Int.toNat x.fst.Ring))).x.s.x.AX) V.unit))) (V.cons (V.int IntKind.u64 (x.snd.rings.get ((0 : Nat) + (Int.toNat x.fst.Ring))).x.most) (V.cons (V.bool (x.snd.rings.get ((0 : Nat) + (Int.toNat x.fst.Ring))).x.closed) V.unit)))))))) <|
 (.need ((true && true) && (Nat.beq x.snd.rings.n x.snd.rings.n)) <|
 (.ret (y2, x.snd))))))))
 (.call con_f18 (x.fst.Reader, (x.snd.rings.get ((0 : Nat) + (Int.toNat x.fst.Ring))).x) fun (y1 : R_f18) =>
 (.need ((true && true) && (((Nat.beq x.snd.rings.n x.snd.rings.n) && (Nat.blt ((0 : Nat) + (Int.toNat x.fst.Ring)) x.snd.rings.n)) && (!(x.snd.rings.get ((0 : Nat) + (Int.toNat x.fst.Ring))).nil))) <|
 (.side (((fun v : Nat → V => v = v) (fun i2 => (cond (Nat.beq i2 ((0 : Nat) + (Int.toNat x.fst.Ring))) (V.ptr (Id.loc 13 0) List.nil) (V.Am (x.snd.rings.get i2).nil (V.cons (V.cons (V.int IntKind.u64 (x.snd.rings.get i2).x.AA.tail) (V.cons (V.BA 36 1 (x.snd.rings.get i2).x.AA.AD.nil (x.snd.rings.get i2).x.AA.AD.n (fun i3 => (V.int IntKind.u64 ((x.snd.rings.get i2).x.AA.AD.get i3)))) V.unit)) (V.cons (V.Am (x.snd.rings.get i2).x.s.nil (V.cons (V.BA 175 3 (x.snd.rings.get i2).x.s.x.l.nil (x.snd.rings.get i2).x.s.x.l.n (fun i3 => (V.cons (V.int IntKind.u64 ((x.snd.rings.get i2).x.s.x.l.get i3).AP) (V.cons (V.int IntKind.u64 ((x.snd.rings.get i2).x.s.x.l.get i3).Value) (V.cons (V.int IntKind.i64 ((x.snd.rings.get i2).x.s.x.l.get i3).Left) V.unit))))) (V.cons (V.int IntKind.i64 (x.snd.rings.get i2).x.s.x.AX) V.unit))) (V.cons (V.int IntKind.u64 (x.snd.rings.get i2).x.most) (V.cons (V.bool (x.snd.rings.get i2).x.closed) V.unit)))))))) ∧ (((fun v : V => v = v) (V.cons (V.cons (V.int IntKind.u64 (x.snd.rings.get ((0 : Nat) + (Int.toNat x.fst.Ring))).x.AA.tail) (V.cons (V.BA 36 1 (x.snd.rings.get ((0 : Nat) + (Int.toNat x.fst.Ring))).x.AA.AD.nil (x.snd.rings.get ((0 : Nat) + (Int.toNat x.fst.Ring))).x.AA.AD.n (fun i2 => (V.int IntKind.u64 ((x.snd.rings.get ((0 : Nat) + (Int.toNat x.fst.Ring))).x.AA.AD.get i2)))) V.unit)) (V.cons (V.Am (x.snd.rings.get ((0 : Nat) + (Int.toNat x.fst.Ring))).x.s.nil (V.cons (V.BA 175 3 (x.snd.rings.get ((0 : Nat) + (Int.toNat x.fst.Ring))).x.s.x.l.nil (x.snd.rings.get ((0 : Nat) + (Int.toNat x.fst.Ring))).x.s.x.l.n (fun i2 => (V.cons (V.int IntKind.u64 ((x.snd.rings.get ((0 : Nat) + (Int.toNat x.fst.Ring))).x.s.x.l.get i2).AP) (V.cons (V.int IntKind.u64 ((x.snd.rings.get ((0 : Nat) + (Int.toNat x.fst.Ring))).x.s.x.l.get i2).Value) (V.cons (V.int IntKind.i64 ((x.snd.rings.get ((0 : Nat) + (Int.toNat x.fst.Ring))).x.s.x.l.get i2).Left) V.unit))))) (V.cons (V.int IntKind.i64 (x.snd.rings.get ((0 : Nat) + (Int.toNat x.fst.Ring))).x.s.x.AX) V.unit))) (V.cons (V.int IntKind.u64 (x.snd.rings.get ((0 : Nat) + (Int.toNat x.fst.Ring))).x.most) (V.cons (V.bool (x.snd.rings.get ((0 : Nat) + (Int.toNat x.fst.Ring))).x.closed) V.unit))))) ∧ ((fun v : V => v = v) (V.Am (x.snd.rings.get ((0 : Nat) + (Int.toNat x.fst.Ring))).nil (V.cons (V.cons (V.int IntKind.u64 (x.snd.rings.get ((0 : Nat) + (Int.toNat x.fst.Ring))).x.AA.tail) (V.cons (V.BA 36 1 (x.snd.rings.get ((0 : Nat) + (Int.toNat x.fst.Ring))).x.AA.AD.nil (x.snd.rings.get ((0 : Nat) + (Int.toNat x.fst.Ring))).x.AA.AD.n (fun i2 => (V.int IntKind.u64 ((x.snd.rings.get ((0 : Nat) + (Int.toNat x.fst.Ring))).x.AA.AD.get i2)))) V.unit)) (V.cons (V.Am (x.snd.rings.get ((0 : Nat) + (Int.toNat x.fst.Ring))).x.s.nil (V.cons (V.BA 175 3 (x.snd.rings.get ((0 : Nat) + (Int.toNat x.fst.Ring))).x.s.x.l.nil (x.snd.rings.get ((0 : Nat) + (Int.toNat x.fst.Ring))).x.s.x.l.n (fun i2 => (V.cons (V.int IntKind.u64 ((x.snd.rings.get ((0 : Nat) + (Int.toNat x.fst.Ring))).x.s.x.l.get i2).AP) (V.cons (V.int IntKind.u64 ((x.snd.rings.get ((0 : Nat) + (Int.toNat x.fst.Ring))).x.s.x.l.get i2).Value) (V.cons (V.int IntKind.i64 ((x.snd.rings.get ((0 : Nat) + (Int.toNat x.fst.Ring))).x.s.x.l.get i2).Left) V.unit))))) (V.cons (V.int IntKind.i64 (x.snd.rings.get ((0 : Nat) + (Int.toNat x.fst.Ring))).x.s.x.AX) V.unit))) (V.cons (V.int IntKind.u64 (x.snd.rings.get ((0 : Nat) + (Int.toNat x.fst.Ring))).x.most) (V.cons (V.bool (x.snd.rings.get ((0 : Nat) + (Int.toNat x.fst.Ring))).x.closed) V.unit)))))))) <|
 (.need ((true && true) && (Nat.beq x.snd.rings.n x.snd.rings.n)) <|
 (.ret (y1, x.snd)))))))))
theorem sd_f17 (x : X_f17) : (tt_f17 x).AJ :=
 (TT.sN (TT.sN (TT.sI (TT.sC fun _ => (TT.sI (TT.sN (TT.sS ⟨rfl, ⟨rfl, rfl⟩⟩ (TT.sN TT.sR))) (TT.sC fun _ => (TT.sN (TT.sS ⟨rfl, ⟨rfl, rfl⟩⟩ (TT.sN TT.sR)))))) (TT.sC fun _ => (TT.sN (TT.sS ⟨rfl, ⟨rfl, rfl⟩⟩ (TT.sN TT.sR)))))))
theorem roT_f17 (x : X_f17) : TT.Ro p_f17 (w_f17 x) (tt_f17 x) :=
 (TT.rN (TT.rN (TT.rI (TT.rC fun _ => (TT.rI (TT.rN (TT.rS (TT.rN (TT.rR rfl)))) (TT.rC fun _ => (TT.rN (TT.rS (TT.rN (TT.rR rfl))))))) (TT.rC fun _ => (TT.rN (TT.rS (TT.rN (TT.rR rfl))))))))
def D_f17 : AU X_f17 R_f17 := .ro (.of tt_f17) (fun y => (y.1)) (fun y x => (y, x.2)) fun x y h => congrArg (fun o => (y.1, o)) (roT_f17 x y h)
def con_f17 : BE Tryz.prog :=
 Di 114 J_f17 S_f17 (.of tt_f17) D_f17 (fun y x => (y, x.2)) (fun y => V.bool y) 2 1 [.any, .any] (lk mxk lbn sd_f17) (fun x => ⟨(nu_e_TFa : ∀ y, (e_TFa y).Cl) (x.2), trivial⟩)
structure TSs_L0 where
 l : Ln
 AX : Int
def d_TSs_L0 (v : V) : TSs_L0 :=
 ⟨SP (fd v 0), dI (fd v 1)⟩
def e_TSs_L0_1 (x : TSs_L0) : V :=
 V.cons ((eLn (.par 1) 175 3) x.l) (V.cons ((V.int .i64) x.AX) (V.unit))
theorem nu_e_TSs_L0_1 (x : TSs_L0) : (e_TSs_L0_1 x).Cl := ⟨trivial, trivial, trivial⟩
abbrev X_fu : Type := Int × TSs_L0 × (Ar TSo)
abbrev R_fu : Type := (Nat × Nat)
abbrev RR_fu : Type := (Nat × Nat) × TSs_L0 × (Ar TSo)
abbrev p_fu (y : RR_fu) : TSs_L0 × (Ar TSo) := y.2
abbrev w_fu (x : X_fu) : TSs_L0 × (Ar TSo) := x.2
def J_fu : BM Tryz.prog :=
 BS Tryz.prog Tryz.f191 18 [] [] [] [.E0 4] [.any] [.any, .any] [] RR_fu [] fun y => [(ePt 1 3) y.1, e_TSs_L0_1 y.2.1, (Mv 3 e_TSo) y.2.2]
def S_fu : AO :=
 Aj Tryz.f191 2 2 X_fu (fun x => [(V.ptr (.par 0) []), (V.int .u64) x.1, e_TSs_L0_1 x.2.1, (Mv 3 e_TSo) x.2.2]) fun l => (dI (at_ l 1), d_TSs_L0 (at_ l 2), (R6 d_TSo) (at_ l 3))
def tt_fu (x : X_fu) : TT Tryz.prog RR_fu :=
 (.need (!(AW (IntKind.u64.wrap ((x.snd.fst.l.n : Nat) : Int)) 0)) <|
 (.need (A6 (Int.tmod x.fst (IntKind.u64.wrap ((x.snd.fst.l.n : Nat) : Int))) x.snd.fst.l.n) <|
 (.ret ((((0 : Nat) + (Int.toNat (Int.tmod x.fst (IntKind.u64.wrap ((x.snd.fst.l.n : Nat) : Int))))), x.snd.fst.l.n), (x.snd.fst, x.snd.snd)))))
theorem sd_fu (x : X_fu) : (tt_fu x).AJ :=
 (TT.sN (TT.sN TT.sR))
theorem roT_fu (x : X_fu) : TT.Ro p_fu (w_fu x) (tt_fu x) :=
 (TT.rN (TT.rN (TT.rR rfl)))
def D_fu : AU X_fu R_fu := .ro (.of tt_fu) (fun y => (y.1)) (fun y x => (y, x.2)) fun x y h => congrArg (fun o => (y.1, o)) (roT_fu x y h)
def con_fu : BE Tryz.prog :=
 Di 191 J_fu S_fu (.of tt_fu) D_fu (fun y x => (y, x.2)) (fun y => (ePt 1 3) y) 2 2 [.any, .any] (lk mxk lbn sd_fu) (fun x => ⟨(nu_e_TSs_L0_1 : ∀ y, (e_TSs_L0_1 y).Cl) (x.2.1), (fun _ _ => (nu_e_TSo) _ : ∀ y, ((Mv 3 e_TSo) y).Cl) (x.2.2), trivial⟩)
abbrev X_f1s : Type := Int × TSs
abbrev R_f1s : Type := Bool
abbrev RR_f1s : Type := Bool × TSs
abbrev p_f1s (y : RR_f1s) : TSs := y.2
abbrev w_f1s (x : X_f1s) : TSs := x.2
def J_f1s : BM Tryz.prog :=
 BS Tryz.prog Tryz.f189 22 [] [] [(1, [.Ia (.par 0) [.CI 0 0] 14])] [.back (.loc 14 0)] [.any] [sh_TSs] [con_fu, con_f2s] RR_f1s [(0, [⟨.loc 14 0, .par 0, [.CI 0 0], none, none⟩])] fun y => [V.bool y.1, e_TSs y.2]
def S_f1s : AO :=
 Aj Tryz.f189 2 1 X_f1s (fun x => [(V.ptr (.par 0) []), (V.int .u64) x.1, e_TSs x.2]) fun l => (dI (at_ l 1), d_TSs (at_ l 2))
def tt_f1s (x : X_f1s) : TT Tryz.prog RR_f1s :=
 (.ite (Bq x.fst 4611686018427387904)
 (.call con_fu (x.fst, ((TSs_L0.mk (Ln.mk x.snd.l.nil x.snd.l.n) x.snd.AX), (Ar.mk x.snd.l.n x.snd.l.get))) fun (y1 : R_fu) =>
 (.need ((Nat.beq x.snd.l.n y1.snd) && true) <|
 (.call con_f2s x.fst fun (y2 : R_f2s) =>
 (.need ((true && true) && (Nat.beq x.snd.l.n x.snd.l.n)) <|
 (.ret ((AW (x.snd.l.get y1.fst).AP y2), x.snd))))))
 (.need ((true && true) && (Nat.beq x.snd.l.n x.snd.l.n)) <|
 (.ret (false, x.snd))))
theorem sd_f1s (x : X_f1s) : (tt_f1s x).AJ :=
 (TT.sI (TT.sC fun _ => (TT.sN (TT.sC fun _ => (TT.sN TT.sR)))) (TT.sN TT.sR))
theorem roT_f1s (x : X_f1s) : TT.Ro p_f1s (w_f1s x) (tt_f1s x) :=
 (TT.rI (TT.rC fun _ => (TT.rN (TT.rC fun _ => (TT.rN (TT.rR rfl))))) (TT.rN (TT.rR rfl)))
def D_f1s : AU X_f1s R_f1s := .ro (.of tt_f1s) (fun y => (y.1)) (fun y x => (y, x.2)) fun x y h => congrArg (fun o => (y.1, o)) (roT_f1s x y h)
def con_f1s : BE Tryz.prog :=
 Di 189 J_f1s S_f1s (.of tt_f1s) D_f1s (fun y x => (y, x.2)) (fun y => V.bool y) 2 1 [.any, .any] (lk mxk lbn sd_f1s) (fun x => ⟨(nu_e_TSs : ∀ y, (e_TSs y).Cl) (x.2), trivial⟩)
abbrev X_f27 : Type := Int × TRr
abbrev R_f27 : Type := Bool
abbrev RR_f27 : Type := Bool × TRr
abbrev p_f27 (y : RR_f27) : TRr := y.2
abbrev w_f27 (x : X_f27) : TRr := x.2
def J_f27 : BM Tryz.prog :=
 BS Tryz.prog Tryz.f163 24 [] [] [] [.back (.loc 20 0)] [.any] [sh_TRr] [con_f1s] RR_f27 [] fun y => [V.bool y.1, e_TRr y.2]
def S_f27 : AO :=
 Aj Tryz.f163 2 1 X_f27 (fun x => [(V.ptr (.par 0) []), (V.int .u64) x.1, e_TRr x.2]) fun l => (dI (at_ l 1), d_TRr (at_ l 2))
def tt_f27 (x : X_f27) : TT Tryz.prog RR_f27 :=
 (.ite (Bq x.fst x.snd.AA.tail)
 (.need (true && (!x.snd.s.nil)) <|
 (.call con_f1s (x.fst, x.snd.s.x) fun (y1 : R_f1s) =>
 (.need ((true && true) && (!x.snd.s.nil)) <|
 (.side ((fun v : V => v = v) (V.cons (V.BA 175 3 x.snd.s.x.l.nil x.snd.s.x.l.n (fun i2 => (V.cons (V.int IntKind.u64 (x.snd.s.x.l.get i2).AP) (V.cons (V.int IntKind.u64 (x.snd.s.x.l.get i2).Value) (V.cons (V.int IntKind.i64 (x.snd.s.x.l.get i2).Left) V.unit))))) (V.cons (V.int IntKind.i64 x.snd.s.x.AX) V.unit))) <|
 (.ret (y1, x.snd))))))
 (.ret (false, x.snd)))
theorem sd_f27 (x : X_f27) : (tt_f27 x).AJ :=
 (TT.sI (TT.sN (TT.sC fun _ => (TT.sN (TT.sS rfl TT.sR)))) TT.sR)
theorem roT_f27 (x : X_f27) : TT.Ro p_f27 (w_f27 x) (tt_f27 x) :=
 (TT.rI (TT.rN (TT.rC fun _ => (TT.rN (TT.rS (TT.rR rfl))))) (TT.rR rfl))
def D_f27 : AU X_f27 R_f27 := .ro (.of tt_f27) (fun y => (y.1)) (fun y x => (y, x.2)) fun x y h => congrArg (fun o => (y.1, o)) (roT_f27 x y h)
def con_f27 : BE Tryz.prog :=
 Di 163 J_f27 S_f27 (.of tt_f27) D_f27 (fun y x => (y, x.2)) (fun y => V.bool y) 2 1 [.any, .any] (lk mxk lbn sd_f27) (fun x => ⟨(nu_e_TRr : ∀ y, (e_TRr y).Cl) (x.2), trivial⟩)
abbrev X_f3b : Type := Int
abbrev R_f3b : Type := Int
def J_f3b : BM Tryz.prog :=
 BS Tryz.prog Tryz.f192 6 [] [] [] [] [.any] [] [] R_f3b [] fun y => [(V.int .u64) y]
def S_f3b : AO :=
 Aj Tryz.f192 1 0 X_f3b (fun x => [(V.int .u64) x]) fun l => (dI (at_ l 0))
def tt_f3b (x : X_f3b) : TT Tryz.prog R_f3b :=
 (.ret (IntKind.u64.wrap ((IntKind.u64.wrap ((2 : Int) * x)) + 1)))
theorem sd_f3b (x : X_f3b) : (tt_f3b x).AJ :=
 TT.sR
def D_f3b : AU X_f3b R_f3b := .of tt_f3b
def con_f3b : BE Tryz.prog :=
 B2 192 J_f3b S_f3b D_f3b 1 0 [.any] (lk mxk lbn sd_f3b)
abbrev X_fn : Type := Int × Int × TSs
abbrev R_fn : Type := Int
abbrev RR_fn : Type := Int × TSs
abbrev p_fn (y : RR_fn) : TSs := y.2
abbrev w_fn (x : X_fn) : TSs := x.2.2
def J_fn : BM Tryz.prog :=
 BS Tryz.prog Tryz.f193 51 [] [(7, [.back (.loc 26 0)]), (10, [.back (.loc 26 0)]), (11, [.back (.loc 26 0)])] [(5, [.Ia (.par 0) [.CI 0 0] 26])] [.back (.loc 26 0)] [.any] [sh_TSs] [con_fu, con_f3b] RR_fn [(0, [⟨.loc 26 0, .par 0, [.CI 0 0], none, none⟩]), (5, [⟨.loc 26 0, .par 0, [.CI 0 0], none, none⟩])] fun y => [(V.int .i64) y.1, e_TSs y.2]
def S_fn : AO :=
 Aj Tryz.f193 3 1 X_fn (fun x => [(V.ptr (.par 0) []), (V.int .i64) x.1, (V.int .u64) x.2.1, e_TSs x.2.2]) fun l => (dI (at_ l 1), dI (at_ l 2), d_TSs (at_ l 3))
structure X_fn_5 where
 FY : Int
 L4 : Int
 Ah : TSs
def S_fn_5 : AO :=
 Ad Tryz.f193 5 (an [0, 1, 2]) [sh_TSs] [] X_fn_5 (fun x => [(V.ptr (.par 0) []), (V.int .i64) x.FY, (V.int .u64) x.L4, e_TSs x.Ah]) fun l => ⟨dI (at_ l 1), dI (at_ l 2), d_TSs (at_ l 3)⟩
abbrev w_fn_5 (x : X_fn_5) : TSs := (x.Ah)
def tt_fn_5 (x : X_fn_5) : TT Tryz.prog RR_fn :=
 (.call con_fu (x.L4, ((TSs_L0.mk (Ln.mk x.Ah.l.nil x.Ah.l.n) x.Ah.AX), (Ar.mk x.Ah.l.n x.Ah.l.get))) fun (y1 : R_fu) =>
 (.need ((Nat.beq x.Ah.l.n y1.snd) && true) <|
 (.call con_f3b x.L4 fun (y2 : R_f3b) =>
 (.ite (Bq (x.Ah.l.get y1.fst).AP y2)
 (.need ((true && true) && (Nat.beq x.Ah.l.n x.Ah.l.n)) <|
 (.ret (9, x.Ah)))
 (.need ((Nat.beq x.Ah.l.n y1.snd) && true) <|
 (.call con_f3b x.L4 fun (y3 : R_f3b) =>
 (.ite (Bq y3 (x.Ah.l.get y1.fst).AP)
 (.need ((true && true) && (Nat.beq x.Ah.l.n x.Ah.l.n)) <|
 (.ret (11, x.Ah)))
 (.need ((Nat.beq x.Ah.l.n y1.snd) && true) <|
 (.need (Bw 0 x.FY) <|
 (.ite (AW (Vm.bits .and IntKind.i64 (shr IntKind.i64 (x.Ah.l.get y1.fst).Left x.FY) 1) 0)
 (.need ((true && true) && (Nat.beq x.Ah.l.n x.Ah.l.n)) <|
 (.ret (11, x.Ah)))
 (.need ((true && true) && (Nat.beq x.Ah.l.n x.Ah.l.n)) <|
 (.ret (0, x.Ah)))))))))))))
theorem sd_fn_5 (x : X_fn_5) : (tt_fn_5 x).AJ :=
 (TT.sC fun _ => (TT.sN (TT.sC fun _ => (TT.sI (TT.sN TT.sR) (TT.sN (TT.sC fun _ => (TT.sI (TT.sN TT.sR) (TT.sN (TT.sN (TT.sI (TT.sN TT.sR) (TT.sN TT.sR)))))))))))
theorem roT_fn_5 (x : X_fn_5) : TT.Ro p_fn (w_fn_5 x) (tt_fn_5 x) :=
 (TT.rC fun _ => (TT.rN (TT.rC fun _ => (TT.rI (TT.rN (TT.rR rfl)) (TT.rN (TT.rC fun _ => (TT.rI (TT.rN (TT.rR rfl)) (TT.rN (TT.rN (TT.rI (TT.rN (TT.rR rfl)) (TT.rN (TT.rR rfl))))))))))))
def D_fn_5 : AU X_fn_5 RR_fn := .of tt_fn_5
theorem ok_fn_5 : AY J_fn S_fn_5 D_fn_5 :=
 lk mxk lbn sd_fn_5
theorem ro_fn_5 : ∀ x y, D_fn_5.rel x y → p_fn y = w_fn_5 x :=
 roT_fn_5 
def tt_fn (x : X_fn) : TT Tryz.prog RR_fn :=
 (.ite (Bw 4611686018427387904 x.snd.fst)
 (.ret (1, x.snd.snd))
 (.ite (Bq x.fst 0)
 (.ret (1, x.snd.snd))
 (.ite (Bw x.snd.snd.AX x.fst)
 (.ret (1, x.snd.snd))
 (.AM S_fn_5 D_fn_5 (X_fn_5.mk x.fst x.snd.fst x.snd.snd)))))
theorem sd_fn (x : X_fn) : (tt_fn x).AJ :=
 (TT.sI TT.sR (TT.sI TT.sR (TT.sI TT.sR TT.sJ)))
theorem roT_fn (x : X_fn) : TT.Ro p_fn (w_fn x) (tt_fn x) :=
 (TT.rI (TT.rR rfl) (TT.rI (TT.rR rfl) (TT.rI (TT.rR rfl) (TT.rJ (ro_fn_5 _)))))
def D_fn : AU X_fn R_fn := .ro (.of tt_fn) (fun y => (y.1)) (fun y x => (y, x.2.2)) fun x y h => congrArg (fun o => (y.1, o)) (roT_fn x y h)
def con_fn : BE Tryz.prog :=
 Di 193 J_fn S_fn (.of tt_fn) D_fn (fun y x => (y, x.2.2)) (fun y => (V.int .i64) y) 3 1 [.any, .any, .any] (lk mxk (lbc ok_fn_5 rfl lbn) sd_fn) (fun x => ⟨(nu_e_TSs : ∀ y, (e_TSs y).Cl) (x.2.2), trivial⟩)
abbrev X_f21 : Type := Int × Int × TSs
abbrev R_f21 : Type := Bool
abbrev RR_f21 : Type := Bool × TSs
abbrev p_f21 (y : RR_f21) : TSs := y.2
abbrev w_f21 (x : X_f21) : TSs := x.2.2
def J_f21 : BM Tryz.prog :=
 BS Tryz.prog Tryz.f190 12 [] [] [] [] [.any] [sh_TSs] [con_fn] RR_f21 [] fun y => [V.bool y.1, e_TSs y.2]
def S_f21 : AO :=
 Aj Tryz.f190 3 1 X_f21 (fun x => [(V.ptr (.par 0) []), (V.int .i64) x.1, (V.int .u64) x.2.1, e_TSs x.2.2]) fun l => (dI (at_ l 1), dI (at_ l 2), d_TSs (at_ l 3))
def tt_f21 (x : X_f21) : TT Tryz.prog RR_f21 :=
 (.call con_fn x fun (y1 : R_fn) =>
 (.ret ((AW y1 0), x.snd.snd)))
theorem sd_f21 (x : X_f21) : (tt_f21 x).AJ :=
 (TT.sC fun _ => TT.sR)
theorem roT_f21 (x : X_f21) : TT.Ro p_f21 (w_f21 x) (tt_f21 x) :=
 (TT.rC fun _ => (TT.rR rfl))
def D_f21 : AU X_f21 R_f21 := .ro (.of tt_f21) (fun y => (y.1)) (fun y x => (y, x.2.2)) fun x y h => congrArg (fun o => (y.1, o)) (roT_f21 x y h)
def con_f21 : BE Tryz.prog :=
 Di 190 J_f21 S_f21 (.of tt_f21) D_f21 (fun y x => (y, x.2.2)) (fun y => V.bool y) 3 1 [.any, .any, .any] (lk mxk lbn sd_f21) (fun x => ⟨(nu_e_TSs : ∀ y, (e_TSs y).Cl) (x.2.2), trivial⟩)
abbrev X_f2h : Type := Int × Int × TRr
abbrev R_f2h : Type := Bool
abbrev RR_f2h : Type := Bool × TRr
abbrev p_f2h (y : RR_f2h) : TRr := y.2
abbrev w_f2h (x : X_f2h) : TRr := x.2.2
def J_f2h : BM Tryz.prog :=
 BS Tryz.prog Tryz.f164 37 [] [] [] [.back (.loc 32 0), .back (.loc 22 0)] [.any] [sh_TRr] [con_fy, con_f21] RR_f2h [] fun y => [V.bool y.1, e_TRr y.2]
def S_f2h : AO :=
 Aj Tryz.f164 3 1 X_f2h (fun x => [(V.ptr (.par 0) []), (V.int .i64) x.1, (V.int .u64) x.2.1, e_TRr x.2.2]) fun l => (dI (at_ l 1), dI (at_ l 2), d_TRr (at_ l 3))
def tt_f2h (x : X_f2h) : TT Tryz.prog RR_f2h :=
 (.call con_fy (x.fst, x.snd.snd.AA) fun (y1 : R_fy) =>
 (.ite y1
 (.need (A6 x.fst x.snd.snd.AA.AD.n) <|
 (.need ((Nat.beq x.snd.snd.AA.AD.n x.snd.snd.AA.AD.n) && true) <|
 (.ite (Bq x.snd.fst (x.snd.snd.AA.AD.get ((0 : Nat) + (Int.toNat x.fst))))
 (.need (true && (!x.snd.snd.s.nil)) <|
 (.call con_f21 (x.fst, (x.snd.fst, x.snd.snd.s.x)) fun (y2 : R_f21) =>
 (.need ((true && true) && (!x.snd.snd.s.nil)) <|
 (.side ((fun v : V => v = v) (V.cons (V.BA 175 3 x.snd.snd.s.x.l.nil x.snd.snd.s.x.l.n (fun i3 => (V.cons (V.int IntKind.u64 (x.snd.snd.s.x.l.get i3).AP) (V.cons (V.int IntKind.u64 (x.snd.snd.s.x.l.get i3).Value) (V.cons (V.int IntKind.i64 (x.snd.snd.s.x.l.get i3).Left) V.unit))))) (V.cons (V.int IntKind.i64 x.snd.snd.s.x.AX) V.unit))) <|
 (.need ((true && true) && (Nat.beq x.snd.snd.AA.AD.n x.snd.snd.AA.AD.n)) <|
 (.ret (y2, x.snd.snd)))))))
 (.need ((true && true) && (Nat.beq x.snd.snd.AA.AD.n x.snd.snd.AA.AD.n)) <|
 (.ret (false, x.snd.snd))))))
 (.ret (false, x.snd.snd))))
theorem sd_f2h (x : X_f2h) : (tt_f2h x).AJ :=
 (TT.sC fun _ => (TT.sI (TT.sN (TT.sN (TT.sI (TT.sN (TT.sC fun _ => (TT.sN (TT.sS rfl (TT.sN TT.sR))))) (TT.sN TT.sR)))) TT.sR))
theorem roT_f2h (x : X_f2h) : TT.Ro p_f2h (w_f2h x) (tt_f2h x) :=
 (TT.rC fun _ => (TT.rI (TT.rN (TT.rN (TT.rI (TT.rN (TT.rC fun _ => (TT.rN (TT.rS (TT.rN (TT.rR rfl)))))) (TT.rN (TT.rR rfl))))) (TT.rR rfl)))
def D_f2h : AU X_f2h R_f2h := .ro (.of tt_f2h) (fun y => (y.1)) (fun y x => (y, x.2.2)) fun x y h => congrArg (fun o => (y.1, o)) (roT_f2h x y h)
def con_f2h : BE Tryz.prog :=
 Di 164 J_f2h S_f2h (.of tt_f2h) D_f2h (fun y x => (y, x.2.2)) (fun y => V.bool y) 3 1 [.any, .any, .any] (lk mxk lbn sd_f2h) (fun x => ⟨(nu_e_TRr : ∀ y, (e_TRr y).Cl) (x.2.2), trivial⟩)
abbrev X_f1f : Type := TEv × TAk × TFa
abbrev R_f1f : Type := Bool
abbrev RR_f1f : Type := Bool × TFa
abbrev p_f1f (y : RR_f1f) : TFa := y.2
abbrev w_f1f (x : X_f1f) : TFa := x.2.2
def J_f1f : BM Tryz.prog :=
 BS Tryz.prog Tryz.f116 65 [(4, 3), (5, 3)] [] [(1, [.Ia (.par 0) [.CI 2 3] 11])] [.back (.loc 15 0), .back (.loc 11 0)] [.any] [sh_TFa] [con_f18, con_f27, con_f1m, con_f2h, con_fq, con_f1y] RR_f1f [(0, [⟨.loc 11 0, .par 0, [.CI 2 3], none, none⟩])] fun y => [V.bool y.1, e_TFa y.2]
def S_f1f : AO :=
 Aj Tryz.f116 3 1 X_f1f (fun x => [(V.ptr (.par 0) []), e_TEv x.1, e_TAk x.2.1, e_TFa x.2.2]) fun l => (d_TEv (at_ l 1), d_TAk (at_ l 2), d_TFa (at_ l 3))
def tt_f1f (x : X_f1f) : TT Tryz.prog RR_f1f :=
 (.need (A6 x.fst.Ring x.snd.snd.rings.n) <|
 (.need (((Nat.beq x.snd.snd.rings.n x.snd.snd.rings.n) && true) && (!(x.snd.snd.rings.get ((0 : Nat) + (Int.toNat x.fst.Ring))).nil)) <|
 (.ite (AW x.fst.Kind 1)
 (.call con_f1m (x.snd.snd.rings.get ((0 : Nat) + (Int.toNat x.fst.Ring))).x fun (y1 : R_f1m) =>
 (.ite (!y1)
 (.call con_f1y (x.snd.snd.rings.get ((0 : Nat) + (Int.toNat x.fst.Ring))).x fun (y2 : R_f1y) =>
 (.need ((true && true) && (((Nat.beq x.snd.snd.rings.n x.snd.snd.rings.n) && (Nat.blt ((0 : Nat) + (Int.toNat x.fst.Ring)) x.snd.snd.rings.n)) && (!(x.snd.snd.rings.get ((0 : Nat) + (Int.toNat x.fst.Ring))).nil))) <|
 (.side (((fun v : Nat → V => v = v) (fun i3 => (cond (Nat.beq i3 ((0 : Nat) + (Int.toNat x.fst.Ring))) (V.ptr (Id.loc 15 0) List.nil) (V.Am (x.snd.snd.rings.get i3).nil (V.cons (V.cons (V.int IntKind.u64 (x.snd.snd.rings.get i3).x.AA.tail) (V.cons (V.BA 36 1 (x.snd.snd.rings.get i3).x.AA.AD.nil (x.snd.snd.rings.get i3).x.AA.AD.n (fun i4 => (V.int IntKind.u64 ((x.snd.snd.rings.get i3).x.AA.AD.get i4)))) V.unit)) (V.cons (V.Am (x.snd.snd.rings.get i3).x.s.nil (V.cons (V.BA 175 3 (x.snd.snd.rings.get i3).x.s.x.l.nil (x.snd.snd.rings.get i3).x.s.x.l.n (fun i4 => (V.cons (V.int IntKind.u64 ((x.snd.snd.rings.get i3).x.s.x.l.get i4).AP) (V.cons (V.int IntKind.u64 ((x.snd.snd.rings.get i3).x.s.x.l.get i4).Value) (V.cons (V.int IntKind.i64 ((x.snd.snd.rings.get i3).x.s.x.l.get i4).Left) V.unit))))) (V.cons (V.int IntKind.i64 (x.snd.snd.rings.get i3).x.s.x.AX) V.unit))) (V.cons (V.int IntKind.u64 (x.snd.snd.rings.get i3).x.most) (V.cons (V.bool (x.snd.snd.rings.get i3).x.closed) V.unit)))))))) ∧ (((fun v : V => v = v) (V.cons (V.cons (V.int IntKind.u64 (x.snd.snd.rings.get ((0 : Nat) + (Int.toNat x.fst.Ring))).x.AA.tail) (V.cons (V.BA 36 1 (x.snd.snd.rings.get ((0 : Nat) + (Int.toNat x.fst.Ring))).x.AA.AD.nil (x.snd.snd.rings.get ((0 : Nat) + (Int.toNat x.fst.Ring))).x.AA.AD.n (fun i3 => (V.int IntKind.u64 ((x.snd.snd.rings.get ((0 : Nat) + (Int.toNat x.fst.Ring))).x.AA.AD.get i3)))) V.unit)) (V.cons (V.Am (x.snd.snd.rings.get ((0 : Nat) + (Int.toNat x.fst.Ring))).x.s.nil (V.cons (V.BA 175 3 (x.snd.snd.rings.get ((0 : Nat) + (Int.toNat x.fst.Ring))).x.s.x.l.nil (x.snd.snd.rings.get ((0 : Nat) + (Int.toNat x.fst.Ring))).x.s.x.l.n (fun i3 => (V.cons (V.int IntKind.u64 ((x.snd.snd.rings.get ((0 : Nat) + (Int.toNat x.fst.Ring))).x.s.x.l.get i3).AP) (V.cons (V.int IntKind.u64 ((x.snd.snd.rings.get ((0 : Nat) + (Int.toNat x.fst.Ring))).x.s.x.l.get i3).Value) (V.cons (V.int IntKind.i64 ((x.snd.snd.rings.get ((0 : Nat) + (Int.toNat x.fst.Ring))).x.s.x.l.get i3).Left) V.unit))))) (V.cons (V.int IntKind.i64 (x.snd.snd.rings.get ((0 : Nat) + (Int.toNat x.fst.Ring))).x.s.x.AX) V.unit))) (V.cons (V.int IntKind.u64 (x.snd.snd.rings.get ((0 : Nat) + (Int.toNat x.fst.Ring))).x.most) (V.cons (V.bool (x.snd.snd.rings.get ((0 : Nat) + (Int.toNat x.fst.Ring))).x.closed) V.unit))))) ∧ ((fun v : V => v = v) (V.Am (x.snd.snd.rings.get ((0 : Nat) + (Int.toNat x.fst.Ring))).nil (V.cons (V.cons (V.int IntKind.u64 (x.snd.snd.rings.get ((0 : Nat) + (Int.toNat x.fst.Ring))).x.AA.tail) (V.cons (V.BA 36 1 (x.snd.snd.rings.get ((0 : Nat) + (Int.toNat x.fst.Ring))).x.AA.AD.nil (x.snd.snd.rings.get ((0 : Nat) + (Int.toNat x.fst.Ring))).x.AA.AD.n (fun i3 => (V.int IntKind.u64 ((x.snd.snd.rings.get ((0 : Nat) + (Int.toNat x.fst.Ring))).x.AA.AD.get i3)))) V.unit)) (V.cons (V.Am (x.snd.snd.rings.get ((0 : Nat) + (Int.toNat x.fst.Ring))).x.s.nil (V.cons (V.BA 175 3 (x.snd.snd.rings.get ((0 : Nat) + (Int.toNat x.fst.Ring))).x.s.x.l.nil (x.snd.snd.rings.get ((0 : Nat) + (Int.toNat x.fst.Ring))).x.s.x.l.n (fun i3 => (V.cons (V.int IntKind.u64 ((x.snd.snd.rings.get ((0 : Nat) + (Int.toNat x.fst.Ring))).x.s.x.l.get i3).AP) (V.cons (V.int IntKind.u64 ((x.snd.snd.rings.get ((0 : Nat) + (Int.toNat x.fst.Ring))).x.s.x.l.get i3).Value) (V.cons (V.int IntKind.i64 ((x.snd.snd.rings.get ((0 : Nat) + (Int.toNat x.fst.Ring))).x.s.x.l.get i3).Left) V.unit))))) (V.cons (V.int IntKind.i64 (x.snd.snd.rings.get ((0 : Nat) + (Int.toNat x.fst.Ring))).x.s.x.AX) V.unit))) (V.cons (V.int IntKind.u64 (x.snd.snd.rings.get ((0 : Nat) + (Int.toNat x.fst.Ring))).x.most) (V.cons (V.bool (x.snd.snd.rings.get ((0 : Nat) + (Int.toNat x.fst.Ring))).x.closed) V.unit)))))))) <|
 (.need ((true && true) && (Nat.beq x.snd.snd.rings.n x.snd.snd.rings.n)) <|
 (.ret ((AW x.fst.AG y2), x.snd.snd))))))
 (.need ((true && true) && (((Nat.beq x.snd.snd.rings.n x.snd.snd.rings.n) && (Nat.blt ((0 : Nat) + (Int.toNat x.fst.Ring)) x.snd.snd.rings.n)) && (!(x.snd.snd.rings.get ((0 : Nat) + (Int.toNat x.fst.Ring))).nil))) <|
 (.side (((fun v : Nat → V => v = v) (fun i2 => (cond (Nat.beq i2 ((0 : Nat) + (Int.toNat x.fst.Ring))) (V.ptr (Id.loc 15 0) List.nil) (V.Am (x.snd.snd.rings.get i2).nil (V.cons (V.cons (V.int IntKind.u64 (x.snd.snd.rings.get i2).x.AA.tail) (V.cons (V.BA 36 1 (x.snd.snd.rings.get i2).x.AA.AD.nil (x.snd.snd.rings.get i2).x.AA.AD.n (fun i3 => (V.int IntKind.u64 ((x.snd.snd.rings.get i2).x.AA.AD.get i3)))) V.unit)) (V.cons (V.Am (x.snd.snd.rings.get i2).x.s.nil (V.cons (V.BA 175 3 (x.snd.snd.rings.get i2).x.s.x.l.nil (x.snd.snd.rings.get i2).x.s.x.l.n (fun i3 => (V.cons (V.int IntKind.u64 ((x.snd.snd.rings.get i2).x.s.x.l.get i3).AP) (V.cons (V.int IntKind.u64 ((x.snd.snd.rings.get i2).x.s.x.l.get i3).Value) (V.cons (V.int IntKind.i64 ((x.snd.snd.rings.get i2).x.s.x.l.get i3).Left) V.unit))))) (V.cons (V.int IntKind.i64 (x.snd.snd.rings.get i2).x.s.x.AX) V.unit))) (V.cons (V.int IntKind.u64 (x.snd.snd.rings.get i2).x.most) (V.cons (V.bool (x.snd.snd.rings.get i2).x.closed) V.unit)))))))) ∧ (((fun v : V => v = v) (V.cons (V.cons (V.int IntKind.u64 (x.snd.snd.rings.get ((0 : Nat) + (Int.toNat x.fst.Ring))).x.AA.tail) (V.cons (V.BA 36 1 (x.snd.snd.rings.get ((0 : Nat) + (Int.toNat x.fst.Ring))).x.AA.AD.nil (x.snd.snd.rings.get ((0 : Nat) + (Int.toNat x.fst.Ring))).x.AA.AD.n (fun i2 => (V.int IntKind.u64 ((x.snd.snd.rings.get ((0 : Nat) + (Int.toNat x.fst.Ring))).x.AA.AD.get i2)))) V.unit)) (V.cons (V.Am (x.snd.snd.rings.get ((0 : Nat) + (Int.toNat x.fst.Ring))).x.s.nil (V.cons (V.BA 175 3 (x.snd.snd.rings.get ((0 : Nat) + (Int.toNat x.fst.Ring))).x.s.x.l.nil (x.snd.snd.rings.get ((0 : Nat) + (Int.toNat x.fst.Ring))).x.s.x.l.n (fun i2 => (V.cons (V.int IntKind.u64 ((x.snd.snd.rings.get ((0 : Nat) + (Int.toNat x.fst.Ring))).x.s.x.l.get i2).AP) (V.cons (V.int IntKind.u64 ((x.snd.snd.rings.get ((0 : Nat) + (Int.toNat x.fst.Ring))).x.s.x.l.get i2).Value) (V.cons (V.int IntKind.i64 ((x.snd.snd.rings.get ((0 : Nat) + (Int.toNat x.fst.Ring))).x.s.x.l.get i2).Left) V.unit))))) (V.cons (V.int IntKind.i64 (x.snd.snd.rings.get ((0 : Nat) + (Int.toNat x.fst.Ring))).x.s.x.AX) V.unit))) (V.cons (V.int IntKind.u64 (x.snd.snd.rings.get ((0 : Nat) + (Int.toNat x.fst.Ring))).x.most) (V.cons (V.bool (x.snd.snd.rings.get ((0 : Nat) + (Int.toNat x.fst.Ring))).x.closed) V.unit))))) ∧ ((fun v : V => v = v) (V.Am (x.snd.snd.rings.get ((0 : Nat) + (Int.toNat x.fst.Ring))).nil (V.cons (V.cons (V.int IntKind.u64 (x.snd.snd.rings.get ((0 : Nat) + (Int.toNat x.fst.Ring))).x.AA.tail) (V.cons (V.BA 36 1 (x.snd.snd.rings.get ((0 : Nat) + (Int.toNat x.fst.Ring))).x.AA.AD.nil (x.snd.snd.rings.get ((0 : Nat) + (Int.toNat x.fst.Ring))).x.AA.AD.n (fun i2 => (V.int IntKind.u64 ((x.snd.snd.rings.get ((0 : Nat) + (Int.toNat x.fst.Ring))).x.AA.AD.get i2)))) V.unit)) (V.cons (V.Am (x.snd.snd.rings.get ((0 : Nat) + (Int.toNat x.fst.Ring))).x.s.nil (V.cons (V.BA 175 3 (x.snd.snd.rings.get ((0 : Nat) + (Int.toNat x.fst.Ring))).x.s.x.l.nil (x.snd.snd.rings.get ((0 : Nat) + (Int.toNat x.fst.Ring))).x.s.x.l.n (fun i2 => (V.cons (V.int IntKind.u64 ((x.snd.snd.rings.get ((0 : Nat) + (Int.toNat x.fst.Ring))).x.s.x.l.get i2).AP) (V.cons (V.int IntKind.u64 ((x.snd.snd.rings.get ((0 : Nat) + (Int.toNat x.fst.Ring))).x.s.x.l.get i2).Value) (V.cons (V.int IntKind.i64 ((x.snd.snd.rings.get ((0 : Nat) + (Int.toNat x.fst.Ring))).x.s.x.l.get i2).Left) V.unit))))) (V.cons (V.int IntKind.i64 (x.snd.snd.rings.get ((0 : Nat) + (Int.toNat x.fst.Ring))).x.s.x.AX) V.unit))) (V.cons (V.int IntKind.u64 (x.snd.snd.rings.get ((0 : Nat) + (Int.toNat x.fst.Ring))).x.most) (V.cons (V.bool (x.snd.snd.rings.get ((0 : Nat) + (Int.toNat x.fst.Ring))).x.closed) V.unit)))))))) <|
 (.need ((true && true) && (Nat.beq x.snd.snd.rings.n x.snd.snd.rings.n)) <|
 (.ret (false, x.snd.snd)))))))
 (.ite (AW x.fst.Kind 2)
 (.call con_f27 (x.fst.AG, (x.snd.snd.rings.get ((0 : Nat) + (Int.toNat x.fst.Ring))).x) fun (y1 : R_f27) =>
 (.need ((true && true) && (((Nat.beq x.snd.snd.rings.n x.snd.snd.rings.n) && (Nat.blt ((0 : Nat) + (Int.toNat x.fst.Ring)) x.snd.snd.rings.n)) && (!(x.snd.snd.rings.get ((0 : Nat) + (Int.toNat x.fst.Ring))).nil))) <|
 (.side (((fun v : Nat → V => v = v) (fun i2 => (cond (Nat.beq i2 ((0 : Nat) + (Int.toNat x.fst.Ring))) (V.ptr (Id.loc 15 0) List.nil) (V.Am (x.snd.snd.rings.get i2).nil (V.cons (V.cons (V.int IntKind.u64 (x.snd.snd.rings.get i2).x.AA.tail) (V.cons (V.BA 36 1 (x.snd.snd.rings.get i2).x.AA.AD.nil (x.snd.snd.rings.get i2).x.AA.AD.n (fun i3 => (V.int IntKind.u64 ((x.snd.snd.rings.get i2).x.AA.AD.get i3)))) V.unit)) (V.cons (V.Am (x.snd.snd.rings.get i2).x.s.nil (V.cons (V.BA 175 3 (x.snd.snd.rings.get i2).x.s.x.l.nil (x.snd.snd.rings.get i2).x.s.x.l.n (fun i3 => (V.cons (V.int IntKind.u64 ((x.snd.snd.rings.get i2).x.s.x.l.get i3).AP) (V.cons (V.int IntKind.u64 ((x.snd.snd.rings.get i2).x.s.x.l.get i3).Value) (V.cons (V.int IntKind.i64 ((x.snd.snd.rings.get i2).x.s.x.l.get i3).Left) V.unit))))) (V.cons (V.int IntKind.i64 (x.snd.snd.rings.get i2).x.s.x.AX) V.unit))) (V.cons (V.int IntKind.u64 (x.snd.snd.rings.get i2).x.most) (V.cons (V.bool (x.snd.snd.rings.get i2).x.closed) V.unit)))))))) ∧ (((fun v : V => v = v) (V.cons (V.cons (V.int IntKind.u64 (x.snd.snd.rings.get ((0 : Nat) + (Int.toNat x.fst.Ring))).x.AA.tail) (V.cons (V.BA 36 1 (x.snd.snd.rings.get ((0 : Nat) + (Int.toNat x.fst.Ring))).x.AA.AD.nil (x.snd.snd.rings.get ((0 : Nat) + (Int.toNat x.fst.Ring))).x.AA.AD.n (fun i2 => (V.int IntKind.u64 ((x.snd.snd.rings.get ((0 : Nat) + (Int.toNat x.fst.Ring))).x.AA.AD.get i2)))) V.unit)) (V.cons (V.Am (x.snd.snd.rings.get ((0 : Nat) + (Int.toNat x.fst.Ring))).x.s.nil (V.cons (V.BA 175 3 (x.snd.snd.rings.get ((0 : Nat) + (Int.toNat x.fst.Ring))).x.s.x.l.nil (x.snd.snd.rings.get ((0 : Nat) + (Int.toNat x.fst.Ring))).x.s.x.l.n (fun i2 => (V.cons (V.int IntKind.u64 ((x.snd.snd.rings.get ((0 : Nat) + (Int.toNat x.fst.Ring))).x.s.x.l.get i2).AP) (V.cons (V.int IntKind.u64 ((x.snd.snd.rings.get ((0 : Nat) + (Int.toNat x.fst.Ring))).x.s.x.l.get i2).Value) (V.cons (V.int IntKind.i64 ((x.snd.snd.rings.get ((0 : Nat) + (Int.toNat x.fst.Ring))).x.s.x.l.get i2).Left) V.unit))))) (V.cons (V.int IntKind.i64 (x.snd.snd.rings.get ((0 : Nat) + (Int.toNat x.fst.Ring))).x.s.x.AX) V.unit))) (V.cons (V.int IntKind.u64 (x.snd.snd.rings.get ((0 : Nat) + (Int.toNat x.fst.Ring))).x.most) (V.cons (V.bool (x.snd.snd.rings.get ((0 : Nat) + (Int.toNat x.fst.Ring))).x.closed) V.unit))))) ∧ ((fun v : V => v = v) (V.Am (x.snd.snd.rings.get ((0 : Nat) + (Int.toNat x.fst.Ring))).nil (V.cons (V.cons (V.int IntKind.u64 (x.snd.snd.rings.get ((0 : Nat) + (Int.toNat x.fst.Ring))).x.AA.tail) (V.cons (V.BA 36 1 (x.snd.snd.rings.get ((0 : Nat) + (Int.toNat x.fst.Ring))).x.AA.AD.nil (x.snd.snd.rings.get ((0 : Nat) + (Int.toNat x.fst.Ring))).x.AA.AD.n (fun i2 => (V.int IntKind.u64 ((x.snd.snd.rings.get ((0 : Nat) + (Int.toNat x.fst.Ring))).x.AA.AD.get i2)))) V.unit)) (V.cons (V.Am (x.snd.snd.rings.get ((0 : Nat) + (Int.toNat x.fst.Ring))).x.s.nil (V.cons (V.BA 175 3 (x.snd.snd.rings.get ((0 : Nat) + (Int.toNat x.fst.Ring))).x.s.x.l.nil (x.snd.snd.rings.get ((0 : Nat) + (Int.toNat x.fst.Ring))).x.s.x.l.n (fun i2 => (V.cons (V.int IntKind.u64 ((x.snd.snd.rings.get ((0 : Nat) + (Int.toNat x.fst.Ring))).x.s.x.l.get i2).AP) (V.cons (V.int IntKind.u64 ((x.snd.snd.rings.get ((0 : Nat) + (Int.toNat x.fst.Ring))).x.s.x.l.get i2).Value) (V.cons (V.int IntKind.i64 ((x.snd.snd.rings.get ((0 : Nat) + (Int.toNat x.fst.Ring))).x.s.x.l.get i2).Left) V.unit))))) (V.cons (V.int IntKind.i64 (x.snd.snd.rings.get ((0 : Nat) + (Int.toNat x.fst.Ring))).x.s.x.AX) V.unit))) (V.cons (V.int IntKind.u64 (x.snd.snd.rings.get ((0 : Nat) + (Int.toNat x.fst.Ring))).x.most) (V.cons (V.bool (x.snd.snd.rings.get ((0 : Nat) + (Int.toNat x.fst.Ring))).x.closed) V.unit)))))))) <|
 (.need ((true && true) && (Nat.beq x.snd.snd.rings.n x.snd.snd.rings.n)) <|
 (.ret (y1, x.snd.snd))))))
 (.ite (AW x.fst.Kind 3)
 (.call con_f18 (x.snd.fst.Reader, (x.snd.snd.rings.get ((0 : Nat) + (Int.toNat x.fst.Ring))).x) fun (y1 : R_f18) =>
 (.ite (!y1)
 (.call con_fq (x.snd.fst.Reader, (x.snd.snd.rings.get ((0 : Nat) + (Int.toNat x.fst.Ring))).x) fun (y2 : R_fq) =>
 (.need ((true && true) && (((Nat.beq x.snd.snd.rings.n x.snd.snd.rings.n) && (Nat.blt ((0 : Nat) + (Int.toNat x.fst.Ring)) x.snd.snd.rings.n)) && (!(x.snd.snd.rings.get ((0 : Nat) + (Int.toNat x.fst.Ring))).nil))) <|
 (.side (((fun v : Nat → V => v = v) (fun i3 => (cond (Nat.beq i3 ((0 : Nat) + (Int.toNat x.fst.Ring))) (V.ptr (Id.loc 15 0) List.nil) (V.Am (x.snd.snd.rings.get i3).nil (V.cons (V.cons (V.int IntKind.u64 (x.snd.snd.rings.get i3).x.AA.tail) (V.cons (V.BA 36 1 (x.snd.snd.rings.get i3).x.AA.AD.nil (x.snd.snd.rings.get i3).x.AA.AD.n (fun i4 => (V.int IntKind.u64 ((x.snd.snd.rings.get i3).x.AA.AD.get i4)))) V.unit)) (V.cons (V.Am (x.snd.snd.rings.get i3).x.s.nil (V.cons (V.BA 175 3 (x.snd.snd.rings.get i3).x.s.x.l.nil (x.snd.snd.rings.get i3).x.s.x.l.n (fun i4 => (V.cons (V.int IntKind.u64 ((x.snd.snd.rings.get i3).x.s.x.l.get i4).AP) (V.cons (V.int IntKind.u64 ((x.snd.snd.rings.get i3).x.s.x.l.get i4).Value) (V.cons (V.int IntKind.i64 ((x.snd.snd.rings.get i3).x.s.x.l.get i4).Left) V.unit))))) (V.cons (V.int IntKind.i64 (x.snd.snd.rings.get i3).x.s.x.AX) V.unit))) (V.cons (V.int IntKind.u64 (x.snd.snd.rings.get i3).x.most) (V.cons (V.bool (x.snd.snd.rings.get i3).x.closed) V.unit)))))))) ∧ (((fun v : V => v = v) (V.cons (V.cons (V.int IntKind.u64 (x.snd.snd.rings.get ((0 : Nat) + (Int.toNat x.fst.Ring))).x.AA.tail) (V.cons (V.BA 36 1 (x.snd.snd.rings.get ((0 : Nat) + (Int.toNat x.fst.Ring))).x.AA.AD.nil (x.snd.snd.rings.get ((0 : Nat) + (Int.toNat x.fst.Ring))).x.AA.AD.n (fun i3 => (V.int IntKind.u64 ((x.snd.snd.rings.get ((0 : Nat) + (Int.toNat x.fst.Ring))).x.AA.AD.get i3)))) V.unit)) (V.cons (V.Am (x.snd.snd.rings.get ((0 : Nat) + (Int.toNat x.fst.Ring))).x.s.nil (V.cons (V.BA 175 3 (x.snd.snd.rings.get ((0 : Nat) + (Int.toNat x.fst.Ring))).x.s.x.l.nil (x.snd.snd.rings.get ((0 : Nat) + (Int.toNat x.fst.Ring))).x.s.x.l.n (fun i3 => (V.cons (V.int IntKind.u64 ((x.snd.snd.rings.get ((0 : Nat) + (Int.toNat x.fst.Ring))).x.s.x.l.get i3).AP) (V.cons (V.int IntKind.u64 ((x.snd.snd.rings.get ((0 : Nat) + (Int.toNat x.fst.Ring))).x.s.x.l.get i3).Value) (V.cons (V.int IntKind.i64 ((x.snd.snd.rings.get ((0 : Nat) + (Int.toNat x.fst.Ring))).x.s.x.l.get i3).Left) V.unit))))) (V.cons (V.int IntKind.i64 (x.snd.snd.rings.get ((0 : Nat) + (Int.toNat x.fst.Ring))).x.s.x.AX) V.unit))) (V.cons (V.int IntKind.u64 (x.snd.snd.rings.get ((0 : Nat) + (Int.toNat x.fst.Ring))).x.most) (V.cons (V.bool (x.snd.snd.rings.get ((0 : Nat) + (Int.toNat x.fst.Ring))).x.closed) V.unit))))) ∧ ((fun v : V => v = v) (V.Am (x.snd.snd.rings.get ((0 : Nat) + (Int.toNat x.fst.Ring))).nil (V.cons (V.cons (V.int IntKind.u64 (x.snd.snd.rings.get ((0 : Nat) + (Int.toNat x.fst.Ring))).x.AA.tail) (V.cons (V.BA 36 1 (x.snd.snd.rings.get ((0 : Nat) + (Int.toNat x.fst.Ring))).x.AA.AD.nil (x.snd.snd.rings.get ((0 : Nat) + (Int.toNat x.fst.Ring))).x.AA.AD.n (fun i3 => (V.int IntKind.u64 ((x.snd.snd.rings.get ((0 : Nat) + (Int.toNat x.fst.Ring))).x.AA.AD.get i3)))) V.unit)) (V.cons (V.Am (x.snd.snd.rings.get ((0 : Nat) + (Int.toNat x.fst.Ring))).x.s.nil (V.cons (V.BA 175 3 (x.snd.snd.rings.get ((0 : Nat) + (Int.toNat x.fst.Ring))).x.s.x.l.nil (x.snd.snd.rings.get ((0 : Nat) + (Int.toNat x.fst.Ring))).x.s.x.l.n (fun i3 => (V.cons (V.int IntKind.u64 ((x.snd.snd.rings.get ((0 : Nat) + (Int.toNat x.fst.Ring))).x.s.x.l.get i3).AP) (V.cons (V.int IntKind.u64 ((x.snd.snd.rings.get ((0 : Nat) + (Int.toNat x.fst.Ring))).x.s.x.l.get i3).Value) (V.cons (V.int IntKind.i64 ((x.snd.snd.rings.get ((0 : Nat) + (Int.toNat x.fst.Ring))).x.s.x.l.get i3).Left) V.unit))))) (V.cons (V.int IntKind.i64 (x.snd.snd.rings.get ((0 : Nat) + (Int.toNat x.fst.Ring))).x.s.x.AX) V.unit))) (V.cons (V.int IntKind.u64 (x.snd.snd.rings.get ((0 : Nat) + (Int.toNat x.fst.Ring))).x.most) (V.cons (V.bool (x.snd.snd.rings.get ((0 : Nat) + (Int.toNat x.fst.Ring))).x.closed) V.unit)))))))) <|
 (.need ((true && true) && (Nat.beq x.snd.snd.rings.n x.snd.snd.rings.n)) <|
 (.ret ((AW x.fst.AG y2), x.snd.snd))))))
 (.need ((true && true) && (((Nat.beq x.snd.snd.rings.n x.snd.snd.rings.n) && (Nat.blt ((0 : Nat) + (Int.toNat x.fst.Ring)) x.snd.snd.rings.n)) && (!(x.snd.snd.rings.get ((0 : Nat) + (Int.toNat x.fst.Ring))).nil))) <|
 (.side (((fun v : Nat → V => v = v) (fun i2 => (cond (Nat.beq i2 ((0 : Nat) + (Int.toNat x.fst.Ring))) (V.ptr (Id.loc 15 0) List.nil) (V.Am (x.snd.snd.rings.get i2).nil (V.cons (V.cons (V.int IntKind.u64 (x.snd.snd.rings.get i2).x.AA.tail) (V.cons (V.BA 36 1 (x.snd.snd.rings.get i2).x.AA.AD.nil (x.snd.snd.rings.get i2).x.AA.AD.n (fun i3 => (V.int IntKind.u64 ((x.snd.snd.rings.get i2).x.AA.AD.get i3)))) V.unit)) (V.cons (V.Am (x.snd.snd.rings.get i2).x.s.nil (V.cons (V.BA 175 3 (x.snd.snd.rings.get i2).x.s.x.l.nil (x.snd.snd.rings.get i2).x.s.x.l.n (fun i3 => (V.cons (V.int IntKind.u64 ((x.snd.snd.rings.get i2).x.s.x.l.get i3).AP) (V.cons (V.int IntKind.u64 ((x.snd.snd.rings.get i2).x.s.x.l.get i3).Value) (V.cons (V.int IntKind.i64 ((x.snd.snd.rings.get i2).x.s.x.l.get i3).Left) V.unit))))) (V.cons (V.int IntKind.i64 (x.snd.snd.rings.get i2).x.s.x.AX) V.unit))) (V.cons (V.int IntKind.u64 (x.snd.snd.rings.get i2).x.most) (V.cons (V.bool (x.snd.snd.rings.get i2).x.closed) V.unit)))))))) ∧ (((fun v : V => v = v) (V.cons (V.cons (V.int IntKind.u64 (x.snd.snd.rings.get ((0 : Nat) + (Int.toNat x.fst.Ring))).x.AA.tail) (V.cons (V.BA 36 1 (x.snd.snd.rings.get ((0 : Nat) + (Int.toNat x.fst.Ring))).x.AA.AD.nil (x.snd.snd.rings.get ((0 : Nat) + (Int.toNat x.fst.Ring))).x.AA.AD.n (fun i2 => (V.int IntKind.u64 ((x.snd.snd.rings.get ((0 : Nat) + (Int.toNat x.fst.Ring))).x.AA.AD.get i2)))) V.unit)) (V.cons (V.Am (x.snd.snd.rings.get ((0 : Nat) + (Int.toNat x.fst.Ring))).x.s.nil (V.cons (V.BA 175 3 (x.snd.snd.rings.get ((0 : Nat) + (Int.toNat x.fst.Ring))).x.s.x.l.nil (x.snd.snd.rings.get ((0 : Nat) + (Int.toNat x.fst.Ring))).x.s.x.l.n (fun i2 => (V.cons (V.int IntKind.u64 ((x.snd.snd.rings.get ((0 : Nat) + (Int.toNat x.fst.Ring))).x.s.x.l.get i2).AP) (V.cons (V.int IntKind.u64 ((x.snd.snd.rings.get ((0 : Nat) + (Int.toNat x.fst.Ring))).x.s.x.l.get i2).Value) (V.cons (V.int IntKind.i64 ((x.snd.snd.rings.get ((0 : Nat) + (Int.toNat x.fst.Ring))).x.s.x.l.get i2).Left) V.unit))))) (V.cons (V.int IntKind.i64 (x.snd.snd.rings.get ((0 : Nat) + (Int.toNat x.fst.Ring))).x.s.x.AX) V.unit))) (V.cons (V.int IntKind.u64 (x.snd.snd.rings.get ((0 : Nat) + (Int.toNat x.fst.Ring))).x.most) (V.cons (V.bool (x.snd.snd.rings.get ((0 : Nat) + (Int.toNat x.fst.Ring))).x.closed) V.unit))))) ∧ ((fun v : V => v = v) (V.Am (x.snd.snd.rings.get ((0 : Nat) + (Int.toNat x.fst.Ring))).nil (V.cons (V.cons (V.int IntKind.u64 (x.snd.snd.rings.get ((0 : Nat) + (Int.toNat x.fst.Ring))).x.AA.tail) (V.cons (V.BA 36 1 (x.snd.snd.rings.get ((0 : Nat) + (Int.toNat x.fst.Ring))).x.AA.AD.nil (x.snd.snd.rings.get ((0 : Nat) + (Int.toNat x.fst.Ring))).x.AA.AD.n (fun i2 => (V.int IntKind.u64 ((x.snd.snd.rings.get ((0 : Nat) + (Int.toNat x.fst.Ring))).x.AA.AD.get i2)))) V.unit)) (V.cons (V.Am (x.snd.snd.rings.get ((0 : Nat) + (Int.toNat x.fst.Ring))).x.s.nil (V.cons (V.BA 175 3 (x.snd.snd.rings.get ((0 : Nat) + (Int.toNat x.fst.Ring))).x.s.x.l.nil (x.snd.snd.rings.get ((0 : Nat) + (Int.toNat x.fst.Ring))).x.s.x.l.n (fun i2 => (V.cons (V.int IntKind.u64 ((x.snd.snd.rings.get ((0 : Nat) + (Int.toNat x.fst.Ring))).x.s.x.l.get i2).AP) (V.cons (V.int IntKind.u64 ((x.snd.snd.rings.get ((0 : Nat) + (Int.toNat x.fst.Ring))).x.s.x.l.get i2).Value) (V.cons (V.int IntKind.i64 ((x.snd.snd.rings.get ((0 : Nat) + (Int.toNat x.fst.Ring))).x.s.x.l.get i2).Left) V.unit))))) (V.cons (V.int IntKind.i64 (x.snd.snd.rings.get ((0 : Nat) + (Int.toNat x.fst.Ring))).x.s.x.AX) V.unit))) (V.cons (V.int IntKind.u64 (x.snd.snd.rings.get ((0 : Nat) + (Int.toNat x.fst.Ring))).x.most) (V.cons (V.bool (x.snd.snd.rings.get ((0 : Nat) + (Int.toNat x.fst.Ring))).x.closed) V.unit)))))))) <|
 (.need ((true && true) && (Nat.beq x.snd.snd.rings.n x.snd.snd.rings.n)) <|
 (.ret (false, x.snd.snd)))))))
 (.ite (AW x.fst.Kind 4)
 (.call con_f2h (x.snd.fst.Reader, (x.fst.AG, (x.snd.snd.rings.get ((0 : Nat) + (Int.toNat x.fst.Ring))).x)) fun (y1 : R_f2h) =>
 (.need ((true && true) && (((Nat.beq x.snd.snd.rings.n x.snd.snd.rings.n) && (Nat.blt ((0 : Nat) + (Int.toNat x.fst.Ring)) x.snd.snd.rings.n)) && (!(x.snd.snd.rings.get ((0 : Nat) + (Int.toNat x.fst.Ring))).nil))) <|
 (.side (((fun v : Nat → V => v = v) (fun i2 => (cond (Nat.beq i2 ((0 : Nat) + (Int.toNat x.fst.Ring))) (V.ptr (Id.loc 15 0) List.nil) (V.Am (x.snd.snd.rings.get i2).nil (V.cons (V.cons (V.int IntKind.u64 (x.snd.snd.rings.get i2).x.AA.tail) (V.cons (V.BA 36 1 (x.snd.snd.rings.get i2).x.AA.AD.nil (x.snd.snd.rings.get i2).x.AA.AD.n (fun i3 => (V.int IntKind.u64 ((x.snd.snd.rings.get i2).x.AA.AD.get i3)))) V.unit)) (V.cons (V.Am (x.snd.snd.rings.get i2).x.s.nil (V.cons (V.BA 175 3 (x.snd.snd.rings.get i2).x.s.x.l.nil (x.snd.snd.rings.get i2).x.s.x.l.n (fun i3 => (V.cons (V.int IntKind.u64 ((x.snd.snd.rings.get i2).x.s.x.l.get i3).AP) (V.cons (V.int IntKind.u64 ((x.snd.snd.rings.get i2).x.s.x.l.get i3).Value) (V.cons (V.int IntKind.i64 ((x.snd.snd.rings.get i2).x.s.x.l.get i3).Left) V.unit))))) (V.cons (V.int IntKind.i64 (x.snd.snd.rings.get i2).x.s.x.AX) V.unit))) (V.cons (V.int IntKind.u64 (x.snd.snd.rings.get i2).x.most) (V.cons (V.bool (x.snd.snd.rings.get i2).x.closed) V.unit)))))))) ∧ (((fun v : V => v = v) (V.cons (V.cons (V.int IntKind.u64 (x.snd.snd.rings.get ((0 : Nat) + (Int.toNat x.fst.Ring))).x.AA.tail) (V.cons (V.BA 36 1 (x.snd.snd.rings.get ((0 : Nat) + (Int.toNat x.fst.Ring))).x.AA.AD.nil (x.snd.snd.rings.get ((0 : Nat) + (Int.toNat x.fst.Ring))).x.AA.AD.n (fun i2 => (V.int IntKind.u64 ((x.snd.snd.rings.get ((0 : Nat) + (Int.toNat x.fst.Ring))).x.AA.AD.get i2)))) V.unit)) (V.cons (V.Am (x.snd.snd.rings.get ((0 : Nat) + (Int.toNat x.fst.Ring))).x.s.nil (V.cons (V.BA 175 3 (x.snd.snd.rings.get ((0 : Nat) + (Int.toNat x.fst.Ring))).x.s.x.l.nil (x.snd.snd.rings.get ((0 : Nat) + (Int.toNat x.fst.Ring))).x.s.x.l.n (fun i2 => (V.cons (V.int IntKind.u64 ((x.snd.snd.rings.get ((0 : Nat) + (Int.toNat x.fst.Ring))).x.s.x.l.get i2).AP) (V.cons (V.int IntKind.u64 ((x.snd.snd.rings.get ((0 : Nat) + (Int.toNat x.fst.Ring))).x.s.x.l.get i2).Value) (V.cons (V.int IntKind.i64 ((x.snd.snd.rings.get ((0 : Nat) + (Int.toNat x.fst.Ring))).x.s.x.l.get i2).Left) V.unit))))) (V.cons (V.int IntKind.i64 (x.snd.snd.rings.get ((0 : Nat) + (Int.toNat x.fst.Ring))).x.s.x.AX) V.unit))) (V.cons (V.int IntKind.u64 (x.snd.snd.rings.get ((0 : Nat) + (Int.toNat x.fst.Ring))).x.most) (V.cons (V.bool (x.snd.snd.rings.get ((0 : Nat) + (Int.toNat x.fst.Ring))).x.closed) V.unit))))) ∧ ((fun v : V => v = v) (V.Am (x.snd.snd.rings.get ((0 : Nat) + (Int.toNat x.fst.Ring))).nil (V.cons (V.cons (V.int IntKind.u64 (x.snd.snd.rings.get ((0 : Nat) + (Int.toNat x.fst.Ring))).x.AA.tail) (V.cons (V.BA 36 1 (x.snd.snd.rings.get ((0 : Nat) + (Int.toNat x.fst.Ring))).x.AA.AD.nil (x.snd.snd.rings.get ((0 : Nat) + (Int.toNat x.fst.Ring))).x.AA.AD.n (fun i2 => (V.int IntKind.u64 ((x.snd.snd.rings.get ((0 : Nat) + (Int.toNat x.fst.Ring))).x.AA.AD.get i2)))) V.unit)) (V.cons (V.Am (x.snd.snd.rings.get ((0 : Nat) + (Int.toNat x.fst.Ring))).x.s.nil (V.cons (V.BA 175 3 (x.snd.snd.rings.get ((0 : Nat) + (Int.toNat x.fst.Ring))).x.s.x.l.nil (x.snd.snd.rings.get ((0 : Nat) + (Int.toNat x.fst.Ring))).x.s.x.l.n (fun i2 => (V.cons (V.int IntKind.u64 ((x.snd.snd.rings.get ((0 : Nat) + (Int.toNat x.fst.Ring))).x.s.x.l.get i2).AP) (V.cons (V.int IntKind.u64 ((x.snd.snd.rings.get ((0 : Nat) + (Int.toNat x.fst.Ring))).x.s.x.l.get i2).Value) (V.cons (V.int IntKind.i64 ((x.snd.snd.rings.get ((0 : Nat) + (Int.toNat x.fst.Ring))).x.s.x.l.get i2).Left) V.unit))))) (V.cons (V.int IntKind.i64 (x.snd.snd.rings.get ((0 : Nat) + (Int.toNat x.fst.Ring))).x.s.x.AX) V.unit))) (V.cons (V.int IntKind.u64 (x.snd.snd.rings.get ((0 : Nat) + (Int.toNat x.fst.Ring))).x.most) (V.cons (V.bool (x.snd.snd.rings.get ((0 : Nat) + (Int.toNat x.fst.Ring))).x.closed) V.unit)))))))) <|
 (.need ((true && true) && (Nat.beq x.snd.snd.rings.n x.snd.snd.rings.n)) <|
 (.ret (y1, x.snd.snd))))))
 (.call con_f1y (x.snd.snd.rings.get ((0 : Nat) + (Int.toNat x.fst.Ring))).x fun (y1 : R_f1y) =>
 (.need ((true && true) && (((Nat.beq x.snd.snd.rings.n x.snd.snd.rings.n) && (Nat.blt ((0 : Nat) + (Int.toNat x.fst.Ring)) x.snd.snd.rings.n)) && (!(x.snd.snd.rings.get ((0 : Nat) + (Int.toNat x.fst.Ring))).nil))) <|
 (.side (((fun v : Nat → V => v = v) (fun i2 => (cond (Nat.beq i2 ((0 : Nat) + (Int.toNat x.fst.Ring))) (V.ptr (Id.loc 15 0) List.nil) (V.Am (x.snd.snd.rings.get i2).nil (V.cons (V.cons (V.int IntKind.u64 (x.snd.snd.rings.get i2).x.AA.tail) (V.cons (V.BA 36 1 (x.snd.snd.rings.get i2).x.AA.AD.nil (x.snd.snd.rings.get i2).x.AA.AD.n (fun i3 => (V.int IntKind.u64 ((x.snd.snd.rings.get i2).x.AA.AD.get i3)))) V.unit)) (V.cons (V.Am (x.snd.snd.rings.get i2).x.s.nil (V.cons (V.BA 175 3 (x.snd.snd.rings.get i2).x.s.x.l.nil (x.snd.snd.rings.get i2).x.s.x.l.n (fun i3 => (V.cons (V.int IntKind.u64 ((x.snd.snd.rings.get i2).x.s.x.l.get i3).AP) (V.cons (V.int IntKind.u64 ((x.snd.snd.rings.get i2).x.s.x.l.get i3).Value) (V.cons (V.int IntKind.i64 ((x.snd.snd.rings.get i2).x.s.x.l.get i3).Left) V.unit))))) (V.cons (V.int IntKind.i64 (x.snd.snd.rings.get i2).x.s.x.AX) V.unit))) (V.cons (V.int IntKind.u64 (x.snd.snd.rings.get i2).x.most) (V.cons (V.bool (x.snd.snd.rings.get i2).x.closed) V.unit)))))))) ∧ (((fun v : V => v = v) (V.cons (V.cons (V.int IntKind.u64 (x.snd.snd.rings.get ((0 : Nat) + (Int.toNat x.fst.Ring))).x.AA.tail) (V.cons (V.BA 36 1 (x.snd.snd.rings.get ((0 : Nat) + (Int.toNat x.fst.Ring))).x.AA.AD.nil (x.snd.snd.rings.get ((0 : Nat) + (Int.toNat x.fst.Ring))).x.AA.AD.n (fun i2 => (V.int IntKind.u64 ((x.snd.snd.rings.get ((0 : Nat) + (Int.toNat x.fst.Ring))).x.AA.AD.get i2)))) V.unit)) (V.cons (V.Am (x.snd.snd.rings.get ((0 : Nat) + (Int.toNat x.fst.Ring))).x.s.nil (V.cons (V.BA 175 3 (x.snd.snd.rings.get ((0 : Nat) + (Int.toNat x.fst.Ring))).x.s.x.l.nil (x.snd.snd.rings.get ((0 : Nat) + (Int.toNat x.fst.Ring))).x.s.x.l.n (fun i2 => (V.cons (V.int IntKind.u64 ((x.snd.snd.rings.get ((0 : Nat) + (Int.toNat x.fst.Ring))).x.s.x.l.get i2).AP) (V.cons (V.int IntKind.u64 ((x.snd.snd.rings.get ((0 : Nat) + (Int.toNat x.fst.Ring))).x.s.x.l.get i2).Value) (V.cons (V.int IntKind.i64 ((x.snd.snd.rings.get ((0 : Nat) + (Int.toNat x.fst.Ring))).x.s.x.l.get i2).Left) V.unit))))) (V.cons (V.int IntKind.i64 (x.snd.snd.rings.get ((0 : Nat) + (Int.toNat x.fst.Ring))).x.s.x.AX) V.unit))) (V.cons (V.int IntKind.u64 (x.snd.snd.rings.get ((0 : Nat) + (Int.toNat x.fst.Ring))).x.most) (V.cons (V.bool (x.snd.snd.rings.get ((0 : Nat) + (Int.toNat x.fst.Ring))).x.closed) V.unit))))) ∧ ((fun v : V => v = v) (V.Am (x.snd.snd.rings.get ((0 : Nat) + (Int.toNat x.fst.Ring))).nil (V.cons (V.cons (V.int IntKind.u64 (x.snd.snd.rings.get ((0 : Nat) + (Int.toNat x.fst.Ring))).x.AA.tail) (V.cons (V.BA 36 1 (x.snd.snd.rings.get ((0 : Nat) + (Int.toNat x.fst.Ring))).x.AA.AD.nil (x.snd.snd.rings.get ((0 : Nat) + (Int.toNat x.fst.Ring))).x.AA.AD.n (fun i2 => (V.int IntKind.u64 ((x.snd.snd.rings.get ((0 : Nat) + (Int.toNat x.fst.Ring))).x.AA.AD.get i2)))) V.unit)) (V.cons (V.Am (x.snd.snd.rings.get ((0 : Nat) + (Int.toNat x.fst.Ring))).x.s.nil (V.cons (V.BA 175 3 (x.snd.snd.rings.get ((0 : Nat) + (Int.toNat x.fst.Ring))).x.s.x.l.nil (x.snd.snd.rings.get ((0 : Nat) + (Int.toNat x.fst.Ring))).x.s.x.l.n (fun i2 => (V.cons (V.int IntKind.u64 ((x.snd.snd.rings.get ((0 : Nat) + (Int.toNat x.fst.Ring))).x.s.x.l.get i2).AP) (V.cons (V.int IntKind.u64 ((x.snd.snd.rings.get ((0 : Nat) + (Int.toNat x.fst.Ring))).x.s.x.l.get i2).Value) (V.cons (V.int IntKind.i64 ((x.snd.snd.rings.get ((0 : Nat) + (Int.toNat x.fst.Ring))).x.s.x.l.get i2).Left) V.unit))))) (V.cons (V.int IntKind.i64 (x.snd.snd.rings.get ((0 : Nat) + (Int.toNat x.fst.Ring))).x.s.x.AX) V.unit))) (V.cons (V.int IntKind.u64 (x.snd.snd.rings.get ((0 : Nat) + (Int.toNat x.fst.Ring))).x.most) (V.cons (V.bool (x.snd.snd.rings.get ((0 : Nat) + (Int.toNat x.fst.Ring))).x.closed) V.unit)))))))) <|
 (.need ((true && true) && (Nat.beq x.snd.snd.rings.n x.snd.snd.rings.n)) <|
 (.ret ((AW x.fst.AG y1), x.snd.snd))))))))))))
theorem sd_f1f (x : X_f1f) : (tt_f1f x).AJ :=
 (TT.sN (TT.sN (TT.sI (TT.sC fun _ => (TT.sI (TT.sC fun _ => (TT.sN (TT.sS ⟨rfl, ⟨rfl, rfl⟩⟩ (TT.sN TT.sR)))) (TT.sN (TT.sS ⟨rfl, ⟨rfl, rfl⟩⟩ (TT.sN TT.sR))))) (TT.sI (TT.sC fun _ => (TT.sN (TT.sS ⟨rfl, ⟨rfl, rfl⟩⟩ (TT.sN TT.sR)))) (TT.sI (TT.sC fun _ => (TT.sI (TT.sC fun _ => (TT.sN (TT.sS ⟨rfl, ⟨rfl, rfl⟩⟩ (TT.sN TT.sR)))) (TT.sN (TT.sS ⟨rfl, ⟨rfl, rfl⟩⟩ (TT.sN TT.sR))))) (TT.sI (TT.sC fun _ => (TT.sN (TT.sS ⟨rfl, ⟨rfl, rfl⟩⟩ (TT.sN TT.sR)))) (TT.sC fun _ => (TT.sN (TT.sS ⟨rfl, ⟨rfl, rfl⟩⟩ (TT.sN TT.sR))))))))))
theorem roT_f1f (x : X_f1f) : TT.Ro p_f1f (w_f1f x) (tt_f1f x) :=
 (TT.rN (TT.rN (TT.rI (TT.rC fun _ => (TT.rI (TT.rC fun _ => (TT.rN (TT.rS (TT.rN (TT.rR rfl))))) (TT.rN (TT.rS (TT.rN (TT.rR rfl)))))) (TT.rI (TT.rC fun _ => (TT.rN (TT.rS (TT.rN (TT.rR rfl))))) (TT.rI (TT.rC fun _ => (TT.rI (TT.rC fun _ => (TT.rN (TT.rS (TT.rN (TT.rR rfl))))) (TT.rN (TT.rS (TT.rN (TT.rR rfl)))))) (TT.rI (TT.rC fun _ => (TT.rN (TT.rS (TT.rN (TT.rR rfl))))) (TT.rC fun _ => (TT.rN (TT.rS (TT.rN (TT.rR rfl)))))))))))
def D_f1f : AU X_f1f R_f1f := .ro (.of tt_f1f) (fun y => (y.1)) (fun y x => (y, x.2.2)) fun x y h => congrArg (fun o => (y.1, o)) (roT_f1f x y h)
def con_f1f : BE Tryz.prog :=
 Di 116 J_f1f S_f1f (.of tt_f1f) D_f1f (fun y x => (y, x.2.2)) (fun y => V.bool y) 3 1 [.any, .any, .any] (lk mxk lbn sd_f1f) (fun x => ⟨(nu_e_TFa : ∀ y, (e_TFa y).Cl) (x.2.2), trivial⟩)
abbrev X_f2y : Type := TEv
abbrev R_f2y : Type := Bool
def J_f2y : BM Tryz.prog :=
 BS Tryz.prog Tryz.f117 11 [(1, 3)] [] [] [] [.any] [] [] R_f2y [] fun y => [V.bool y]
def S_f2y : AO :=
 Aj Tryz.f117 1 0 X_f2y (fun x => [e_TEv x]) fun l => (d_TEv (at_ l 0))
def tt_f2y (x : X_f2y) : TT Tryz.prog R_f2y :=
 (.ite (Bw x.Kind 4)
 (.ret true)
 (.ret (AW x.Kind 13)))
theorem sd_f2y (x : X_f2y) : (tt_f2y x).AJ :=
 (TT.sI TT.sR TT.sR)
def D_f2y : AU X_f2y R_f2y := .of tt_f2y
def con_f2y : BE Tryz.prog :=
 B2 117 J_f2y S_f2y D_f2y 1 0 [.any] (lk mxk lbn sd_f2y)
abbrev X_fc : Type := TEv × TFa
abbrev R_fc : Type := Bool
abbrev RR_fc : Type := Bool × TFa
abbrev p_fc (y : RR_fc) : TFa := y.2
abbrev w_fc (x : X_fc) : TFa := x.2
def J_fc : BM Tryz.prog :=
 BS Tryz.prog Tryz.f63 103 [(3, 3)] [(8, [.back (.loc 30 0), .back (.loc 26 0)]), (9, [.back (.loc 30 0), .back (.loc 26 0)]), (10, [.back (.loc 47 0), .back (.loc 43 0), .back (.loc 30 0), .back (.loc 26 0)]), (11, [.back (.loc 47 0), .back (.loc 43 0), .back (.loc 30 0), .back (.loc 26 0)]), (12, [.back (.loc 47 0), .back (.loc 43 0), .back (.loc 30 0), .back (.loc 26 0)]), (13, [.back (.loc 47 0), .back (.loc 43 0), .back (.loc 30 0), .back (.loc 26 0)]), (14, [.back (.loc 47 0), .back (.loc 43 0), .back (.loc 30 0), .back (.loc 26 0)]), (15, [.back (.loc 47 0), .back (.loc 43 0), .back (.loc 30 0), .back (.loc 26 0)]), (16, [.back (.loc 90 0), .back (.loc 86 0), .back (.loc 47 0), .back (.loc 43 0), .back (.loc 30 0), .back (.loc 26 0)])] [] [.back (.loc 90 0), .back (.loc 86 0), .back (.loc 47 0), .back (.loc 43 0), .back (.loc 30 0), .back (.loc 26 0)] [.any] [sh_TFa] [con_f1b, con_f17, con_f1f, con_f16, con_f2y, con_f15] RR_fc [] fun y => [V.bool y.1, e_TFa y.2]
def S_fc : AO :=
 Aj Tryz.f63 2 1 X_fc (fun x => [(V.ptr (.par 0) []), e_TEv x.1, e_TFa x.2]) fun l => (d_TEv (at_ l 1), d_TFa (at_ l 2))
structure X_fc_16 where
 D1 : TEv
 Ah : TFa
 BI : TAk
def S_fc_16 : AO :=
 Ad Tryz.f63 16 (an [0, 3, 5]) [sh_TFa] [(.loc 5 0, .any)] X_fc_16 (fun x => [(V.ptr (.par 0) []), (Ch e_TEv) x.D1, (V.ptr (.loc 5 0) []), e_TFa x.Ah, e_TAk x.BI]) fun l => ⟨(Ci d_TEv) (at_ l 1), d_TFa (at_ l 3), d_TAk (at_ l 4)⟩
abbrev w_fc_16 (x : X_fc_16) : TFa := (x.Ah)
def tt_fc_16 (x : X_fc_16) : TT Tryz.prog RR_fc :=
 (.call con_f2y x.D1 fun (y1 : R_f2y) =>
 (.ite (!y1)
 (.ret (true, x.Ah))
 (.call con_f1f (x.D1, (x.BI, x.Ah)) fun (y2 : R_f1f) =>
 (.ret (y2, x.Ah)))))
theorem sd_fc_16 (x : X_fc_16) : (tt_fc_16 x).AJ :=
 (TT.sC fun _ => (TT.sI TT.sR (TT.sC fun _ => TT.sR)))
theorem roT_fc_16 (x : X_fc_16) : TT.Ro p_fc (w_fc_16 x) (tt_fc_16 x) :=
 (TT.rC fun _ => (TT.rI (TT.rR rfl) (TT.rC fun _ => (TT.rR rfl))))
def D_fc_16 : AU X_fc_16 RR_fc := .of tt_fc_16
theorem ok_fc_16 : AY J_fc S_fc_16 D_fc_16 :=
 lk mxk lbn sd_fc_16
theorem ro_fc_16 : ∀ x y, D_fc_16.rel x y → p_fc y = w_fc_16 x :=
 roT_fc_16 
def tt_fc (x : X_fc) : TT Tryz.prog RR_fc :=
 (.call con_f16 (x.fst, x.snd) fun (y1 : R_f16) =>
 (.ite (!(AW y1 0))
 (.ret (false, x.snd))
 (.call con_f1b (x.fst.Thread, x.snd) fun (y2 : R_f1b) =>
 (.ite (AW x.fst.Kind 5)
 (.call con_f17 (y2, x.snd) fun (y3 : R_f17) =>
 (.ite y3
 (.need (A6 x.fst.Ring x.snd.rings.n) <|
 (.need (((Nat.beq x.snd.rings.n x.snd.rings.n) && true) && (!(x.snd.rings.get ((0 : Nat) + (Int.toNat x.fst.Ring))).nil)) <|
 (.call con_f15 (x.snd.rings.get ((0 : Nat) + (Int.toNat x.fst.Ring))).x fun (y4 : R_f15) =>
 (.need ((true && true) && (((Nat.beq x.snd.rings.n x.snd.rings.n) && (Nat.blt ((0 : Nat) + (Int.toNat x.fst.Ring)) x.snd.rings.n)) && (!(x.snd.rings.get ((0 : Nat) + (Int.toNat x.fst.Ring))).nil))) <|
 (.side (((fun v : Nat → V => v = v) (fun i5 => (cond (Nat.beq i5 ((0 : Nat) + (Int.toNat x.fst.Ring))) (V.ptr (Id.loc 30 0) List.nil) (V.Am (x.snd.rings.get i5).nil (V.cons (V.cons (V.int IntKind.u64 (x.snd.rings.get i5).x.AA.tail) (V.cons (V.BA 36 1 (x.snd.rings.get i5).x.AA.AD.nil (x.snd.rings.get i5).x.AA.AD.n (fun i6 => (V.int IntKind.u64 ((x.snd.rings.get i5).x.AA.AD.get i6)))) V.unit)) (V.cons (V.Am (x.snd.rings.get i5).x.s.nil (V.cons (V.BA 175 3 (x.snd.rings.get i5).x.s.x.l.nil (x.snd.rings.get i5).x.s.x.l.n (fun i6 => (V.cons (V.int IntKind.u64 ((x.snd.rings.get i5).x.s.x.l.get i6).AP) (V.cons (V.int IntKind.u64 ((x.snd.rings.get i5).x.s.x.l.get i6).Value) (V.cons (V.int IntKind.i64 ((x.snd.rings.get i5).x.s.x.l.get i6).Left) V.unit))))) (V.cons (V.int IntKind.i64 (x.snd.rings.get i5).x.s.x.AX) V.unit))) (V.cons (V.int IntKind.u64 (x.snd.rings.get i5).x.most) (V.cons (V.bool (x.snd.rings.get i5).x.closed) V.unit)))))))) ∧ (((fun v : V => v = v) (V.cons (V.cons (V.int IntKind.u64 (x.snd.rings.get ((0 : Nat) + (Int.toNat x.fst.Ring))).x.AA.tail) (V.cons (V.BA 36 1 (x.snd.rings.get ((0 : Nat) + (Int.toNat x.fst.Ring))).x.AA.AD.nil (x.snd.rings.get ((0 : Nat) + (Int.toNat x.fst.Ring))).x.AA.AD.n (fun i5 => (V.int IntKind.u64 ((x.snd.rings.get ((0 : Nat) + (Int.toNat x.fst.Ring))).x.AA.AD.get i5)))) V.unit)) (V.cons (V.Am (x.snd.rings.get ((0 : Nat) + (Int.toNat x.fst.Ring))).x.s.nil (V.cons (V.BA 175 3 (x.snd.rings.get ((0 : Nat) + (Int.toNat x.fst.Ring))).x.s.x.l.nil (x.snd.rings.get ((0 : Nat) + (Int.toNat x.fst.Ring))).x.s.x.l.n (fun i5 => (V.cons (V.int IntKind.u64 ((x.snd.rings.get ((0 : Nat) + (Int.toNat x.fst.Ring))).x.s.x.l.get i5).AP) (V.cons (V.int IntKind.u64 ((x.snd.rings.get ((0 : Nat) + (Int.toNat x.fst.Ring))).x.s.x.l.get i5).Value) (V.cons (V.int IntKind.i64 ((x.snd.rings.get ((0 : Nat) + (Int.toNat x.fst.Ring))).x.s.x.l.get i5).Left) V.unit))))) (V.cons (V.int IntKind.i64 (x.snd.rings.get ((0 : Nat) + (Int.toNat x.fst.Ring))).x.s.x.AX) V.unit))) (V.cons (V.int IntKind.u64 (x.snd.rings.get ((0 : Nat) + (Int.toNat x.fst.Ring))).x.most) (V.cons (V.bool (x.snd.rings.get ((0 : Nat) + (Int.toNat x.fst.Ring))).x.closed) V.unit))))) ∧ ((fun v : V => v = v) (V.Am (x.snd.rings.get ((0 : Nat) + (Int.toNat x.fst.Ring))).nil (V.cons (V.cons (V.int IntKind.u64 (x.snd.rings.get ((0 : Nat) + (Int.toNat x.fst.Ring))).x.AA.tail) (V.cons (V.BA 36 1 (x.snd.rings.get ((0 : Nat) + (Int.toNat x.fst.Ring))).x.AA.AD.nil (x.snd.rings.get ((0 : Nat) + (Int.toNat x.fst.Ring))).x.AA.AD.n (fun i5 => (V.int IntKind.u64 ((x.snd.rings.get ((0 : Nat) + (Int.toNat x.fst.Ring))).x.AA.AD.get i5)))) V.unit)) (V.cons (V.Am (x.snd.rings.get ((0 : Nat) + (Int.toNat x.fst.Ring))).x.s.nil (V.cons (V.BA 175 3 (x.snd.rings.get ((0 : Nat) + (Int.toNat x.fst.Ring))).x.s.x.l.nil (x.snd.rings.get ((0 : Nat) + (Int.toNat x.fst.Ring))).x.s.x.l.n (fun i5 => (V.cons (V.int IntKind.u64 ((x.snd.rings.get ((0 : Nat) + (Int.toNat x.fst.Ring))).x.s.x.l.get i5).AP) (V.cons (V.int IntKind.u64 ((x.snd.rings.get ((0 : Nat) + (Int.toNat x.fst.Ring))).x.s.x.l.get i5).Value) (V.cons (V.int IntKind.i64 ((x.snd.rings.get ((0 : Nat) + (Int.toNat x.fst.Ring))).x.s.x.l.get i5).Left) V.unit))))) (V.cons (V.int IntKind.i64 (x.snd.rings.get ((0 : Nat) + (Int.toNat x.fst.Ring))).x.s.x.AX) V.unit))) (V.cons (V.int IntKind.u64 (x.snd.rings.get ((0 : Nat) + (Int.toNat x.fst.Ring))).x.most) (V.cons (V.bool (x.snd.rings.get ((0 : Nat) + (Int.toNat x.fst.Ring))).x.closed) V.unit)))))))) <|
 (.need ((true && true) && (Nat.beq x.snd.rings.n x.snd.rings.n)) <|
 (.ret ((!y4), x.snd))))))))
 (.ret (false, x.snd))))
 (.ite (AW x.fst.Kind 7)
 (.call con_f17 (y2, x.snd) fun (y3 : R_f17) =>
 (.ite y3
 (.need (A6 x.fst.Ring x.snd.rings.n) <|
 (.need (((Nat.beq x.snd.rings.n x.snd.rings.n) && true) && (!(x.snd.rings.get ((0 : Nat) + (Int.toNat x.fst.Ring))).nil)) <|
 (.call con_f15 (x.snd.rings.get ((0 : Nat) + (Int.toNat x.fst.Ring))).x fun (y4 : R_f15) =>
 (.need ((true && true) && (((Nat.beq x.snd.rings.n x.snd.rings.n) && (Nat.blt ((0 : Nat) + (Int.toNat x.fst.Ring)) x.snd.rings.n)) && (!(x.snd.rings.get ((0 : Nat) + (Int.toNat x.fst.Ring))).nil))) <|
 (.side (((fun v : Nat → V => v = v) (fun i5 => (cond (Nat.beq i5 ((0 : Nat) + (Int.toNat x.fst.Ring))) (V.ptr (Id.loc 30 0) List.nil) (V.Am (x.snd.rings.get i5).nil (V.cons (V.cons (V.int IntKind.u64 (x.snd.rings.get i5).x.AA.tail) (V.cons (V.BA 36 1 (x.snd.rings.get i5).x.AA.AD.nil (x.snd.rings.get i5).x.AA.AD.n (fun i6 => (V.int IntKind.u64 ((x.snd.rings.get i5).x.AA.AD.get i6)))) V.unit)) (V.cons (V.Am (x.snd.rings.get i5).x.s.nil (V.cons (V.BA 175 3 (x.snd.rings.get i5).x.s.x.l.nil (x.snd.rings.get i5).x.s.x.l.n (fun i6 => (V.cons (V.int IntKind.u64 ((x.snd.rings.get i5).x.s.x.l.get i6).AP) (V.cons (V.int IntKind.u64 ((x.snd.rings.get i5).x.s.x.l.get i6).Value) (V.cons (V.int IntKind.i64 ((x.snd.rings.get i5).x.s.x.l.get i6).Left) V.unit))))) (V.cons (V.int IntKind.i64 (x.snd.rings.get i5).x.s.x.AX) V.unit))) (V.cons (V.int IntKind.u64 (x.snd.rings.get i5).x.most) (V.cons (V.bool (x.snd.rings.get i5).x.closed) V.unit)))))))) ∧ (((fun v : V => v = v) (V.cons (V.cons (V.int IntKind.u64 (x.snd.rings.get ((0 : Nat) + (Int.toNat x.fst.Ring))).x.AA.tail) (V.cons (V.BA 36 1 (x.snd.rings.get ((0 : Nat) + (Int.toNat x.fst.Ring))).x.AA.AD.nil (x.snd.rings.get ((0 : Nat) + (Int.toNat x.fst.Ring))).x.AA.AD.n (fun i5 => (V.int IntKind.u64 ((x.snd.rings.get ((0 : Nat) + (Int.toNat x.fst.Ring))).x.AA.AD.get i5)))) V.unit)) (V.cons (V.Am (x.snd.rings.get ((0 : Nat) + (Int.toNat x.fst.Ring))).x.s.nil (V.cons (V.BA 175 3 (x.snd.rings.get ((0 : Nat) + (Int.toNat x.fst.Ring))).x.s.x.l.nil (x.snd.rings.get ((0 : Nat) + (Int.toNat x.fst.Ring))).x.s.x.l.n (fun i5 => (V.cons (V.int IntKind.u64 ((x.snd.rings.get ((0 : Nat) + (Int.toNat x.fst.Ring))).x.s.x.l.get i5).AP) (V.cons (V.int IntKind.u64 ((x.snd.rings.get ((0 : Nat) + (Int.toNat x.fst.Ring))).x.s.x.l.get i5).Value) (V.cons (V.int IntKind.i64 ((x.snd.rings.get ((0 : Nat) + (Int.toNat x.fst.Ring))).x.s.x.l.get i5).Left) V.unit))))) (V.cons (V.int IntKind.i64 (x.snd.rings.get ((0 : Nat) + (Int.toNat x.fst.Ring))).x.s.x.AX) V.unit))) (V.cons (V.int IntKind.u64 (x.snd.rings.get ((0 : Nat) + (Int.toNat x.fst.Ring))).x.most) (V.cons (V.bool (x.snd.rings.get ((0 : Nat) + (Int.toNat x.fst.Ring))).x.closed) V.unit))))) ∧ ((fun v : V => v = v) (V.Am (x.snd.rings.get ((0 : Nat) + (Int.toNat x.fst.Ring))).nil (V.cons (V.cons (V.int IntKind.u64 (x.snd.rings.get ((0 : Nat) + (Int.toNat x.fst.Ring))).x.AA.tail) (V.cons (V.BA 36 1 (x.snd.rings.get ((0 : Nat) + (Int.toNat x.fst.Ring))).x.AA.AD.nil (x.snd.rings.get ((0 : Nat) + (Int.toNat x.fst.Ring))).x.AA.AD.n (fun i5 => (V.int IntKind.u64 ((x.snd.rings.get ((0 : Nat) + (Int.toNat x.fst.Ring))).x.AA.AD.get i5)))) V.unit)) (V.cons (V.Am (x.snd.rings.get ((0 : Nat) + (Int.toNat x.fst.Ring))).x.s.nil (V.cons (V.BA 175 3 (x.snd.rings.get ((0 : Nat) + (Int.toNat x.fst.Ring))).x.s.x.l.nil (x.snd.rings.get ((0 : Nat) + (Int.toNat x.fst.Ring))).x.s.x.l.n (fun i5 => (V.cons (V.int IntKind.u64 ((x.snd.rings.get ((0 : Nat) + (Int.toNat x.fst.Ring))).x.s.x.l.get i5).AP) (V.cons (V.int IntKind.u64 ((x.snd.rings.get ((0 : Nat) + (Int.toNat x.fst.Ring))).x.s.x.l.get i5).Value) (V.cons (V.int IntKind.i64 ((x.snd.rings.get ((0 : Nat) + (Int.toNat x.fst.Ring))).x.s.x.l.get i5).Left) V.unit))))) (V.cons (V.int IntKind.i64 (x.snd.rings.get ((0 : Nat) + (Int.toNat x.fst.Ring))).x.s.x.AX) V.unit))) (V.cons (V.int IntKind.u64 (x.snd.rings.get ((0 : Nat) + (Int.toNat x.fst.Ring))).x.most) (V.cons (V.bool (x.snd.rings.get ((0 : Nat) + (Int.toNat x.fst.Ring))).x.closed) V.unit)))))))) <|
 (.need ((true && true) && (Nat.beq x.snd.rings.n x.snd.rings.n)) <|
 (.ret ((!y4), x.snd))))))))
 (.ret (false, x.snd))))
 (.ite (AW x.fst.Kind 6)
 (.call con_f17 (y2, x.snd) fun (y3 : R_f17) =>
 (.ite y3
 (.need (A6 x.fst.Ring x.snd.rings.n) <|
 (.need (((Nat.beq x.snd.rings.n x.snd.rings.n) && true) && (!(x.snd.rings.get ((0 : Nat) + (Int.toNat x.fst.Ring))).nil)) <|
 (.call con_f15 (x.snd.rings.get ((0 : Nat) + (Int.toNat x.fst.Ring))).x fun (y4 : R_f15) =>
 (.need ((true && true) && (((Nat.beq x.snd.rings.n x.snd.rings.n) && (Nat.blt ((0 : Nat) + (Int.toNat x.fst.Ring)) x.snd.rings.n)) && (!(x.snd.rings.get ((0 : Nat) + (Int.toNat x.fst.Ring))).nil))) <|
 (.side (((fun v : Nat → V => v = v) (fun i5 => (cond (Nat.beq i5 ((0 : Nat) + (Int.toNat x.fst.Ring))) (V.ptr (Id.loc 47 0) List.nil) (V.Am (x.snd.rings.get i5).nil (V.cons (V.cons (V.int IntKind.u64 (x.snd.rings.get i5).x.AA.tail) (V.cons (V.BA 36 1 (x.snd.rings.get i5).x.AA.AD.nil (x.snd.rings.get i5).x.AA.AD.n (fun i6 => (V.int IntKind.u64 ((x.snd.rings.get i5).x.AA.AD.get i6)))) V.unit)) (V.cons (V.Am (x.snd.rings.get i5).x.s.nil (V.cons (V.BA 175 3 (x.snd.rings.get i5).x.s.x.l.nil (x.snd.rings.get i5).x.s.x.l.n (fun i6 => (V.cons (V.int IntKind.u64 ((x.snd.rings.get i5).x.s.x.l.get i6).AP) (V.cons (V.int IntKind.u64 ((x.snd.rings.get i5).x.s.x.l.get i6).Value) (V.cons (V.int IntKind.i64 ((x.snd.rings.get i5).x.s.x.l.get i6).Left) V.unit))))) (V.cons (V.int IntKind.i64 (x.snd.rings.get i5).x.s.x.AX) V.unit))) (V.cons (V.int IntKind.u64 (x.snd.rings.get i5).x.most) (V.cons (V.bool (x.snd.rings.get i5).x.closed) V.unit)))))))) ∧ (((fun v : V => v = v) (V.cons (V.cons (V.int IntKind.u64 (x.snd.rings.get ((0 : Nat) + (Int.toNat x.fst.Ring))).x.AA.tail) (V.cons (V.BA 36 1 (x.snd.rings.get ((0 : Nat) + (Int.toNat x.fst.Ring))).x.AA.AD.nil (x.snd.rings.get ((0 : Nat) + (Int.toNat x.fst.Ring))).x.AA.AD.n (fun i5 => (V.int IntKind.u64 ((x.snd.rings.get ((0 : Nat) + (Int.toNat x.fst.Ring))).x.AA.AD.get i5)))) V.unit)) (V.cons (V.Am (x.snd.rings.get ((0 : Nat) + (Int.toNat x.fst.Ring))).x.s.nil (V.cons (V.BA 175 3 (x.snd.rings.get ((0 : Nat) + (Int.toNat x.fst.Ring))).x.s.x.l.nil (x.snd.rings.get ((0 : Nat) + (Int.toNat x.fst.Ring))).x.s.x.l.n (fun i5 => (V.cons (V.int IntKind.u64 ((x.snd.rings.get ((0 : Nat) + (Int.toNat x.fst.Ring))).x.s.x.l.get i5).AP) (V.cons (V.int IntKind.u64 ((x.snd.rings.get ((0 : Nat) + (Int.toNat x.fst.Ring))).x.s.x.l.get i5).Value) (V.cons (V.int IntKind.i64 ((x.snd.rings.get ((0 : Nat) + (Int.toNat x.fst.Ring))).x.s.x.l.get i5).Left) V.unit))))) (V.cons (V.int IntKind.i64 (x.snd.rings.get ((0 : Nat) + (Int.toNat x.fst.Ring))).x.s.x.AX) V.unit))) (V.cons (V.int IntKind.u64 (x.snd.rings.get ((0 : Nat) + (Int.toNat x.fst.Ring))).x.most) (V.cons (V.bool (x.snd.rings.get ((0 : Nat) + (Int.toNat x.fst.Ring))).x.closed) V.unit))))) ∧ ((fun v : V => v = v) (V.Am (x.snd.rings.get ((0 : Nat) + (Int.toNat x.fst.Ring))).nil (V.cons (V.cons (V.int IntKind.u64 (x.snd.rings.get ((0 : Nat) + (Int.toNat x.fst.Ring))).x.AA.tail) (V.cons (V.BA 36 1 (x.snd.rings.get ((0 : Nat) + (Int.toNat x.fst.Ring))).x.AA.AD.nil (x.snd.rings.get ((0 : Nat) + (Int.toNat x.fst.Ring))).x.AA.AD.n (fun i5 => (V.int IntKind.u64 ((x.snd.rings.get ((0 : Nat) + (Int.toNat x.fst.Ring))).x.AA.AD.get i5)))) V.unit)) (V.cons (V.Am (x.snd.rings.get ((0 : Nat) + (Int.toNat x.fst.Ring))).x.s.nil (V.cons (V.BA 175 3 (x.snd.rings.get ((0 : Nat) + (Int.toNat x.fst.Ring))).x.s.x.l.nil (x.snd.rings.get ((0 : Nat) + (Int.toNat x.fst.Ring))).x.s.x.l.n (fun i5 => (V.cons (V.int IntKind.u64 ((x.snd.rings.get ((0 : Nat) + (Int.toNat x.fst.Ring))).x.s.x.l.get i5).AP) (V.cons (V.int IntKind.u64 ((x.snd.rings.get ((0 : Nat) + (Int.toNat x.fst.Ring))).x.s.x.l.get i5).Value) (V.cons (V.int IntKind.i64 ((x.snd.rings.get ((0 : Nat) + (Int.toNat x.fst.Ring))).x.s.x.l.get i5).Left) V.unit))))) (V.cons (V.int IntKind.i64 (x.snd.rings.get ((0 : Nat) + (Int.toNat x.fst.Ring))).x.s.x.AX) V.unit))) (V.cons (V.int IntKind.u64 (x.snd.rings.get ((0 : Nat) + (Int.toNat x.fst.Ring))).x.most) (V.cons (V.bool (x.snd.rings.get ((0 : Nat) + (Int.toNat x.fst.Ring))).x.closed) V.unit)))))))) <|
 (.need ((true && true) && (Nat.beq x.snd.rings.n x.snd.rings.n)) <|
 (.ret (y4, x.snd))))))))
 (.ret (false, x.snd))))
 (.ite (AW x.fst.Kind 8)
 (.ite (Bw x.snd.now x.fst.Value)
 (.ret ((Bq (IntKind.u64.wrap (x.fst.Value - x.snd.now)) 1048576), x.snd))
 (.ret (false, x.snd)))
 (.ite (AW x.fst.Kind 10)
 (.ret ((!x.snd.ended), x.snd))
 (.ite (AW x.fst.Kind 1)
 (.call con_f1f (x.fst, (y2, x.snd)) fun (y3 : R_f1f) =>
 (.ite y3
 (.need (A6 x.fst.Ring x.snd.rings.n) <|
 (.need (((Nat.beq x.snd.rings.n x.snd.rings.n) && true) && (!(x.snd.rings.get ((0 : Nat) + (Int.toNat x.fst.Ring))).nil)) <|
 (.call con_f15 (x.snd.rings.get ((0 : Nat) + (Int.toNat x.fst.Ring))).x fun (y4 : R_f15) =>
 (.need ((true && true) && (((Nat.beq x.snd.rings.n x.snd.rings.n) && (Nat.blt ((0 : Nat) + (Int.toNat x.fst.Ring)) x.snd.rings.n)) && (!(x.snd.rings.get ((0 : Nat) + (Int.toNat x.fst.Ring))).nil))) <|
 (.side (((fun v : Nat → V => v = v) (fun i5 => (cond (Nat.beq i5 ((0 : Nat) + (Int.toNat x.fst.Ring))) (V.ptr (Id.loc 90 0) List.nil) (V.Am (x.snd.rings.get i5).nil (V.cons (V.cons (V.int IntKind.u64 (x.snd.rings.get i5).x.AA.tail) (V.cons (V.BA 36 1 (x.snd.rings.get i5).x.AA.AD.nil (x.snd.rings.get i5).x.AA.AD.n (fun i6 => (V.int IntKind.u64 ((x.snd.rings.get i5).x.AA.AD.get i6)))) V.unit)) (V.cons (V.Am (x.snd.rings.get i5).x.s.nil (V.cons (V.BA 175 3 (x.snd.rings.get i5).x.s.x.l.nil (x.snd.rings.get i5).x.s.x.l.n (fun i6 => (V.cons (V.int IntKind.u64 ((x.snd.rings.get i5).x.s.x.l.get i6).AP) (V.cons (V.int IntKind.u64 ((x.snd.rings.get i5).x.s.x.l.get i6).Value) (V.cons (V.int IntKind.i64 ((x.snd.rings.get i5).x.s.x.l.get i6).Left) V.unit))))) (V.cons (V.int IntKind.i64 (x.snd.rings.get i5).x.s.x.AX) V.unit))) (V.cons (V.int IntKind.u64 (x.snd.rings.get i5).x.most) (V.cons (V.bool (x.snd.rings.get i5).x.closed) V.unit)))))))) ∧ (((fun v : V => v = v) (V.cons (V.cons (V.int IntKind.u64 (x.snd.rings.get ((0 : Nat) + (Int.toNat x.fst.Ring))).x.AA.tail) (V.cons (V.BA 36 1 (x.snd.rings.get ((0 : Nat) + (Int.toNat x.fst.Ring))).x.AA.AD.nil (x.snd.rings.get ((0 : Nat) + (Int.toNat x.fst.Ring))).x.AA.AD.n (fun i5 => (V.int IntKind.u64 ((x.snd.rings.get ((0 : Nat) + (Int.toNat x.fst.Ring))).x.AA.AD.get i5)))) V.unit)) (V.cons (V.Am (x.snd.rings.get ((0 : Nat) + (Int.toNat x.fst.Ring))).x.s.nil (V.cons (V.BA 175 3 (x.snd.rings.get ((0 : Nat) + (Int.toNat x.fst.Ring))).x.s.x.l.nil (x.snd.rings.get ((0 : Nat) + (Int.toNat x.fst.Ring))).x.s.x.l.n (fun i5 => (V.cons (V.int IntKind.u64 ((x.snd.rings.get ((0 : Nat) + (Int.toNat x.fst.Ring))).x.s.x.l.get i5).AP) (V.cons (V.int IntKind.u64 ((x.snd.rings.get ((0 : Nat) + (Int.toNat x.fst.Ring))).x.s.x.l.get i5).Value) (V.cons (V.int IntKind.i64 ((x.snd.rings.get ((0 : Nat) + (Int.toNat x.fst.Ring))).x.s.x.l.get i5).Left) V.unit))))) (V.cons (V.int IntKind.i64 (x.snd.rings.get ((0 : Nat) + (Int.toNat x.fst.Ring))).x.s.x.AX) V.unit))) (V.cons (V.int IntKind.u64 (x.snd.rings.get ((0 : Nat) + (Int.toNat x.fst.Ring))).x.most) (V.cons (V.bool (x.snd.rings.get ((0 : Nat) + (Int.toNat x.fst.Ring))).x.closed) V.unit))))) ∧ ((fun v : V => v = v) (V.Am (x.snd.rings.get ((0 : Nat) + (Int.toNat x.fst.Ring))).nil (V.cons (V.cons (V.int IntKind.u64 (x.snd.rings.get ((0 : Nat) + (Int.toNat x.fst.Ring))).x.AA.tail) (V.cons (V.BA 36 1 (x.snd.rings.get ((0 : Nat) + (Int.toNat x.fst.Ring))).x.AA.AD.nil (x.snd.rings.get ((0 : Nat) + (Int.toNat x.fst.Ring))).x.AA.AD.n (fun i5 => (V.int IntKind.u64 ((x.snd.rings.get ((0 : Nat) + (Int.toNat x.fst.Ring))).x.AA.AD.get i5)))) V.unit)) (V.cons (V.Am (x.snd.rings.get ((0 : Nat) + (Int.toNat x.fst.Ring))).x.s.nil (V.cons (V.BA 175 3 (x.snd.rings.get ((0 : Nat) + (Int.toNat x.fst.Ring))).x.s.x.l.nil (x.snd.rings.get ((0 : Nat) + (Int.toNat x.fst.Ring))).x.s.x.l.n (fun i5 => (V.cons (V.int IntKind.u64 ((x.snd.rings.get ((0 : Nat) + (Int.toNat x.fst.Ring))).x.s.x.l.get i5).AP) (V.cons (V.int IntKind.u64 ((x.snd.rings.get ((0 : Nat) + (Int.toNat x.fst.Ring))).x.s.x.l.get i5).Value) (V.cons (V.int IntKind.i64 ((x.snd.rings.get ((0 : Nat) + (Int.toNat x.fst.Ring))).x.s.x.l.get i5).Left) V.unit))))) (V.cons (V.int IntKind.i64 (x.snd.rings.get ((0 : Nat) + (Int.toNat x.fst.Ring))).x.s.x.AX) V.unit))) (V.cons (V.int IntKind.u64 (x.snd.rings.get ((0 : Nat) + (Int.toNat x.fst.Ring))).x.most) (V.cons (V.bool (x.snd.rings.get ((0 : Nat) + (Int.toNat x.fst.Ring))).x.closed) V.unit)))))))) <|
 (.need ((true && true) && (Nat.beq x.snd.rings.n x.snd.rings.n)) <|
 (.ret ((!y4), x.snd))))))))
 (.ret (false, x.snd))))
 (.AM S_fc_16 D_fc_16 (X_fc_16.mk x.fst x.snd y2)))))))))))
theorem sd_fc (x : X_fc) : (tt_fc x).AJ :=
 (TT.sC fun _ => (TT.sI TT.sR (TT.sC fun _ => (TT.sI (TT.sC fun _ => (TT.sI (TT.sN (TT.sN (TT.sC fun _ => (TT.sN (TT.sS ⟨rfl, ⟨rfl, rfl⟩⟩ (TT.sN TT.sR)))))) TT.sR)) (TT.sI (TT.sC fun _ => (TT.sI (TT.sN (TT.sN (TT.sC fun _ => (TT.sN (TT.sS ⟨rfl, ⟨rfl, rfl⟩⟩ (TT.sN TT.sR)))))) TT.sR)) (TT.sI (TT.sC fun _ => (TT.sI (TT.sN (TT.sN (TT.sC fun _ => (TT.sN (TT.sS ⟨rfl, ⟨rfl, rfl⟩⟩ (TT.sN TT.sR)))))) TT.sR)) (TT.sI (TT.sI TT.sR TT.sR) (TT.sI TT.sR (TT.sI (TT.sC fun _ => (TT.sI (TT.sN (TT.sN (TT.sC fun _ => (TT.sN (TT.sS ⟨rfl, ⟨rfl, rfl⟩⟩ (TT.sN TT.sR)))))) TT.sR)) TT.sJ)))))))))
theorem roT_fc (x : X_fc) : TT.Ro p_fc (w_fc x) (tt_fc x) :=
 (TT.rC fun _ => (TT.rI (TT.rR rfl) (TT.rC fun _ => (TT.rI (TT.rC fun _ => (TT.rI (TT.rN (TT.rN (TT.rC fun _ => (TT.rN (TT.rS (TT.rN (TT.rR rfl))))))) (TT.rR rfl))) (TT.rI (TT.rC fun _ => (TT.rI (TT.rN (TT.rN (TT.rC fun _ => (TT.rN (TT.rS (TT.rN (TT.rR rfl))))))) (TT.rR rfl))) (TT.rI (TT.rC fun _ => (TT.rI (TT.rN (TT.rN (TT.rC fun _ => (TT.rN (TT.rS (TT.rN (TT.rR rfl))))))) (TT.rR rfl))) (TT.rI (TT.rI (TT.rR rfl) (TT.rR rfl)) (TT.rI (TT.rR rfl) (TT.rI (TT.rC fun _ => (TT.rI (TT.rN (TT.rN (TT.rC fun _ => (TT.rN (TT.rS (TT.rN (TT.rR rfl))))))) (TT.rR rfl))) (TT.rJ (ro_fc_16 _)))))))))))
def D_fc : AU X_fc R_fc := .ro (.of tt_fc) (fun y => (y.1)) (fun y x => (y, x.2)) fun x y h => congrArg (fun o => (y.1, o)) (roT_fc x y h)
def con_fc : BE Tryz.prog :=
 Di 63 J_fc S_fc (.of tt_fc) D_fc (fun y x => (y, x.2)) (fun y => V.bool y) 2 1 [.any, .any] (lk mxk (lbc ok_fc_16 rfl lbn) sd_fc) (fun x => ⟨(nu_e_TFa : ∀ y, (e_TFa y).Cl) (x.2), trivial⟩)
structure AZ where
 Bj : Int
 Du : Int
 Gj : Int
 Hh : Bool
def Bo (v : V) : AZ :=
 ⟨dI (fd v 0), dI (fd v 1), dI (fd v 2), dB (fd v 3)⟩
def Bg (x : AZ) : V :=
 V.cons ((V.int .i64) x.Bj) (V.cons ((V.int .u64) x.Du) (V.cons ((V.int .u64) x.Gj) (V.cons (V.bool x.Hh) (V.unit))))
theorem SK (x : AZ) : (Bg x).Cl := ⟨trivial, trivial, trivial, trivial, trivial⟩
abbrev X_f2w : Type := (Bx TRr)
abbrev R_f2w : Type := Int
def J_f2w : BM Tryz.prog :=
 BS Tryz.prog Tryz.f81 10 [(5, 1)] [] [(0, [.open_ 0])] [] [.any] [] [] R_f2w [] fun y => [(V.int .u64) y]
def S_f2w : AO :=
 Aj Tryz.f81 1 0 X_f2w (fun x => [ebox_TRr x]) fun l => (dbox_TRr (at_ l 0))
def tt_f2w (x : X_f2w) : TT Tryz.prog R_f2w :=
 (.need (!x.nil) <|
 (.ret x.x.AA.tail))
theorem sd_f2w (x : X_f2w) : (tt_f2w x).AJ :=
 (TT.sN TT.sR)
def D_f2w : AU X_f2w R_f2w := .of tt_f2w
def con_f2w : BE Tryz.prog :=
 B2 81 J_f2w S_f2w D_f2w 1 0 [hbox_TRr] (lk mxk lbn sd_f2w)
abbrev X_fg : Type := (Sl Int) × TAk × AZ × TFa
abbrev R_fg : Type := TEv × Bool
abbrev RR_fg : Type := TEv × Bool × TFa
abbrev p_fg (y : RR_fg) : TFa := y.2.2
abbrev w_fg (x : X_fg) : TFa := x.2.2.2
def J_fg : BM Tryz.prog :=
 BS Tryz.prog Tryz.f43 98 [(6, 3), (7, 3), (79, 1)] [] [] [] [.any, .any] [sh_TFa] [con_fc, con_f1k, con_ff, con_f2w, con_f1e, con_ft] RR_fg [] fun y => [V.Cb (V.cons (e_TEv y.1) (V.cons (V.bool y.2.1) (V.unit))), e_TFa y.2.2]
def S_fg : AO :=
 Aj Tryz.f43 4 1 X_fg (fun x => [(V.ptr (.par 0) []), BG x.1, e_TAk x.2.1, Bg x.2.2.1, e_TFa x.2.2.2]) fun l => (Bc (at_ l 1), d_TAk (at_ l 2), Bo (at_ l 3), d_TFa (at_ l 4))
structure X_fg_26 where
 Ah : TFa
 G0 : TEv
 B4 : TEv
def S_fg_26 : AO :=
 Ad Tryz.f43 26 (an [0, 8, 10]) [sh_TFa] [(.loc 8 0, .any), (.loc 10 0, .any)] X_fg_26 (fun x => [(V.ptr (.par 0) []), (V.ptr (.loc 8 0) []), (V.ptr (.loc 10 0) []), e_TFa x.Ah, e_TEv x.G0, e_TEv x.B4]) fun l => ⟨d_TFa (at_ l 3), d_TEv (at_ l 4), d_TEv (at_ l 5)⟩
abbrev w_fg_26 (x : X_fg_26) : TFa := (x.Ah)
def tt_fg_26 (x : X_fg_26) : TT Tryz.prog RR_fg :=
 (.call con_fc (x.B4, x.Ah) fun (y1 : R_fc) =>
 (.ret (x.B4, (y1, x.Ah))))
theorem sd_fg_26 (x : X_fg_26) : (tt_fg_26 x).AJ :=
 (TT.sC fun _ => TT.sR)
theorem roT_fg_26 (x : X_fg_26) : TT.Ro p_fg (w_fg_26 x) (tt_fg_26 x) :=
 (TT.rC fun _ => (TT.rR rfl))
def D_fg_26 : AU X_fg_26 RR_fg := .of tt_fg_26
theorem ok_fg_26 : AY J_fg S_fg_26 D_fg_26 :=
 lk mxk lbn sd_fg_26
theorem ro_fg_26 : ∀ x y, D_fg_26.rel x y → p_fg y = w_fg_26 x :=
 roT_fg_26 
def tt_fg (x : X_fg) : TT Tryz.prog RR_fg :=
 (.ite (AW x.snd.fst.Kind 0)
 (.ret ((TEv.mk x.snd.snd.fst.Bj 0 0 0 0), (false, x.snd.snd.snd)))
 (.ite (AW x.snd.fst.Kind 1)
 (.call con_ft (x.snd.fst, ((TEv.mk x.snd.snd.fst.Bj 0 0 0 0), (x.snd.snd.fst.Hh, x.snd.snd.snd))) fun (y1 : R_ft) =>
 (.ret (y1.fst, (y1.snd, x.snd.snd.snd))))
 (.ite (AW x.snd.fst.Kind 2)
 (.call con_ft (x.snd.fst, ((TEv.mk x.snd.snd.fst.Bj 0 0 0 0), (x.snd.snd.fst.Hh, x.snd.snd.snd))) fun (y1 : R_ft) =>
 (.ret (y1.fst, (y1.snd, x.snd.snd.snd))))
 (.ite (AW x.snd.fst.Kind 10)
 (.AM S_fg_26 D_fg_26 (X_fg_26.mk x.snd.snd.snd (TEv.mk 0 0 0 0 0) (TEv.mk x.snd.snd.fst.Bj 2 x.snd.fst.Ring x.snd.fst.AG 0)))
 (.ite (AW x.snd.fst.Kind 11)
 (.AM S_fg_26 D_fg_26 (X_fg_26.mk x.snd.snd.snd (TEv.mk 0 0 0 0 0) (TEv.mk x.snd.snd.fst.Bj 4 x.snd.fst.Ring x.snd.fst.AG 0)))
 (.ite (AW x.snd.fst.Kind 3)
 (.call con_ff (x.snd.fst.Ring, x.snd.snd.snd) fun (y1 : R_ff) =>
 (.call con_f2w y1 fun (y2 : R_f2w) =>
 (.AM S_fg_26 D_fg_26 (X_fg_26.mk x.snd.snd.snd (TEv.mk 0 0 0 0 0) (TEv.mk x.snd.snd.fst.Bj 13 x.snd.fst.Ring y2 0)))))
 (.ite (AW x.snd.fst.Kind 4)
 (.call con_f1k x.snd.snd.snd fun (y1 : R_f1k) =>
 (.AM S_fg_26 D_fg_26 (X_fg_26.mk x.snd.snd.snd (TEv.mk 0 0 0 0 0) (TEv.mk x.snd.snd.fst.Bj 8 0 0 (IntKind.u64.wrap (y1 + (Int.tmod x.snd.snd.fst.Du 1048576)))))))
 (.ite (AW x.snd.fst.Kind 5)
 (.AM S_fg_26 D_fg_26 (X_fg_26.mk x.snd.snd.snd (TEv.mk 0 0 0 0 0) (TEv.mk x.snd.snd.fst.Bj 9 0 0 x.snd.snd.fst.Gj)))
 (.ite (AW x.snd.fst.Kind 6)
 (.call con_f1e (x.fst, ((TEv.mk x.snd.snd.fst.Bj 0 0 0 0), x.snd.snd.snd)) fun (y1 : R_f1e) =>
 (.AM S_fg_26 D_fg_26 (X_fg_26.mk x.snd.snd.snd (TEv.mk 0 0 0 0 0) y1)))
 (.ite (AW x.snd.fst.Kind 7)
 (.AM S_fg_26 D_fg_26 (X_fg_26.mk x.snd.snd.snd (TEv.mk 0 0 0 0 0) (TEv.mk x.snd.snd.fst.Bj 12 0 0 x.snd.fst.Value)))
 (.ite (AW x.snd.fst.Kind 8)
 (.AM S_fg_26 D_fg_26 (X_fg_26.mk x.snd.snd.snd (TEv.mk 0 0 0 0 0) (TEv.mk x.snd.snd.fst.Bj 14 0 0 0)))
 (.ite (AW x.snd.fst.Kind 9)
 (.AM S_fg_26 D_fg_26 (X_fg_26.mk x.snd.snd.snd (TEv.mk 0 0 0 0 0) (TEv.mk x.snd.snd.fst.Bj 15 0 0 0)))
 (.AM S_fg_26 D_fg_26 (X_fg_26.mk x.snd.snd.snd (TEv.mk 0 0 0 0 0) (TEv.mk x.snd.snd.fst.Bj 0 0 0 0)))))))))))))))
theorem sd_fg (x : X_fg) : (tt_fg x).AJ :=
 (TT.sI TT.sR (TT.sI (TT.sC fun _ => TT.sR) (TT.sI (TT.sC fun _ => TT.sR) (TT.sI TT.sJ (TT.sI TT.sJ (TT.sI (TT.sC fun _ => (TT.sC fun _ => TT.sJ)) (TT.sI (TT.sC fun _ => TT.sJ) (TT.sI TT.sJ (TT.sI (TT.sC fun _ => TT.sJ) (TT.sI TT.sJ (TT.sI TT.sJ (TT.sI TT.sJ TT.sJ))))))))))))
theorem roT_fg (x : X_fg) : TT.Ro p_fg (w_fg x) (tt_fg x) :=
 (TT.rI (TT.rR rfl) (TT.rI (TT.rC fun _ => (TT.rR rfl)) (TT.rI (TT.rC fun _ => (TT.rR rfl)) (TT.rI (TT.rJ (ro_fg_26 _)) (TT.rI (TT.rJ (ro_fg_26 _)) (TT.rI (TT.rC fun _ => (TT.rC fun _ => (TT.rJ (ro_fg_26 _)))) (TT.rI (TT.rC fun _ => (TT.rJ (ro_fg_26 _))) (TT.rI (TT.rJ (ro_fg_26 _)) (TT.rI (TT.rC fun _ => (TT.rJ (ro_fg_26 _))) (TT.rI (TT.rJ (ro_fg_26 _)) (TT.rI (TT.rJ (ro_fg_26 _)) (TT.rI (TT.rJ (ro_fg_26 _)) (TT.rJ (ro_fg_26 _))))))))))))))
def D_fg : AU X_fg R_fg := .ro (.of tt_fg) (fun y => (y.1, y.2.1)) (fun y x => (y.1, y.2, x.2.2.2)) fun x y h => congrArg (fun o => (y.1, y.2.1, o)) (roT_fg x y h)
def con_fg : BE Tryz.prog :=
 Di 43 J_fg S_fg (.of tt_fg) D_fg (fun y x => (y.1, y.2, x.2.2.2)) (fun y => V.Cb (V.cons (e_TEv y.1) (V.cons (V.bool y.2) (V.unit)))) 4 1 [.any, BP, .any, .any] (lk mxk (lbc ok_fg_26 rfl lbn) sd_fg) (fun x => ⟨(nu_e_TFa : ∀ y, (e_TFa y).Cl) (x.2.2.2), trivial⟩)
abbrev X_f2q : Type := (Sl Int) × AZ × TFa
abbrev R_f2q : Type := TEv × Bool
abbrev RR_f2q : Type := TEv × Bool × TFa
abbrev p_f2q (y : RR_f2q) : TFa := y.2.2
abbrev w_f2q (x : X_f2q) : TFa := x.2.2
def J_f2q : BM Tryz.prog :=
 BS Tryz.prog Tryz.f15 34 [(5, 3), (12, 1), (22, 1), (24, 1)] [] [] [] [.any, .any] [sh_TFa] [con_f1o, con_fg] RR_f2q [] fun y => [V.Cb (V.cons (e_TEv y.1) (V.cons (V.bool y.2.1) (V.unit))), e_TFa y.2.2]
def S_f2q : AO :=
 Aj Tryz.f15 3 1 X_f2q (fun x => [(V.ptr (.par 0) []), BG x.1, Bg x.2.1, e_TFa x.2.2]) fun l => (Bc (at_ l 1), Bo (at_ l 2), d_TFa (at_ l 3))
def tt_f2q (x : X_f2q) : TT Tryz.prog RR_f2q :=
 (.call con_f1o (x.snd.fst.Bj, x.snd.snd) fun (y1 : R_f1o) =>
 (.ite (!(AW y1.snd 0))
 (.ret ((TEv.mk 0 0 0 0 0), (false, x.snd.snd)))
 (.call con_fg (x.fst, (y1.fst, (x.snd.fst, x.snd.snd))) fun (y2 : R_fg) =>
 (.ite (!y2.snd)
 (.ret ((TEv.mk 0 0 0 0 0), (false, x.snd.snd)))
 (.ret (y2.fst, (true, x.snd.snd)))))))
theorem sd_f2q (x : X_f2q) : (tt_f2q x).AJ :=
 (TT.sC fun _ => (TT.sI TT.sR (TT.sC fun _ => (TT.sI TT.sR TT.sR))))
theorem roT_f2q (x : X_f2q) : TT.Ro p_f2q (w_f2q x) (tt_f2q x) :=
 (TT.rC fun _ => (TT.rI (TT.rR rfl) (TT.rC fun _ => (TT.rI (TT.rR rfl) (TT.rR rfl)))))
def D_f2q : AU X_f2q R_f2q := .ro (.of tt_f2q) (fun y => (y.1, y.2.1)) (fun y x => (y.1, y.2, x.2.2)) fun x y h => congrArg (fun o => (y.1, y.2.1, o)) (roT_f2q x y h)
def con_f2q : BE Tryz.prog :=
 Di 15 J_f2q S_f2q (.of tt_f2q) D_f2q (fun y x => (y.1, y.2, x.2.2)) (fun y => V.Cb (V.cons (e_TEv y.1) (V.cons (V.bool y.2) (V.unit)))) 3 1 [.any, BP, .any] (lk mxk lbn sd_f2q) (fun x => ⟨(nu_e_TFa : ∀ y, (e_TFa y).Cl) (x.2.2), trivial⟩)
abbrev X_f2z : Type := TRr
abbrev R_f2z : Type := Int × Int × TRr
def J_f2z : BM Tryz.prog :=
 BS Tryz.prog Tryz.f165 30 [] [] [] [] [.any, .any] [sh_TRr] [con_f1m] R_f2z [] fun y => [V.Cb (V.cons ((V.int .u64) y.1) (V.cons ((V.int .i64) y.2.1) (V.unit))), e_TRr y.2.2]
def S_f2z : AO :=
 Aj Tryz.f165 1 1 X_f2z (fun x => [(V.ptr (.par 0) []), e_TRr x]) fun l => (d_TRr (at_ l 1))
def tt_f2z (x : X_f2z) : TT Tryz.prog R_f2z :=
 (.ite x.closed
 (.ret (0, (10, x)))
 (.call con_f1m x fun (y1 : R_f1m) =>
 (.ite y1
 (.ret (0, (8, x)))
 (.ret ((IntKind.u64.wrap ((IntKind.u64.wrap (x.AA.tail + 1)) - 1)), (0, (TRr.mk (TRc.mk (IntKind.u64.wrap (x.AA.tail + 1)) x.AA.AD) x.s x.most x.closed)))))))
theorem sd_f2z (x : X_f2z) : (tt_f2z x).AJ :=
 (TT.sI TT.sR (TT.sC fun _ => (TT.sI TT.sR TT.sR)))
def D_f2z : AU X_f2z R_f2z := .of tt_f2z
def con_f2z : BE Tryz.prog :=
 B2 165 J_f2z S_f2z D_f2z 1 1 [.any] (lk mxk lbn sd_f2z)
abbrev X_f2f : Type := Int × TFa
abbrev R_f2f : Type := TFa
def J_f2f : BM Tryz.prog :=
 BS Tryz.prog Tryz.f118 56 [(9, 1), (34, 1), (54, 1)] [(1, [.close (.loc 16 0), .close (.loc 13 0)]), (2, [.close (.loc 16 0), .close (.loc 13 0)]), (3, [.close (.loc 28 0), .close (.loc 25 0), .close (.loc 16 0), .close (.loc 13 0)]), (4, [.close (.loc 28 0), .close (.loc 25 0), .close (.loc 16 0), .close (.loc 13 0)]), (5, [.close (.loc 28 0), .close (.loc 25 0), .close (.loc 16 0), .close (.loc 13 0)]), (6, [.close (.loc 28 0), .close (.loc 25 0), .close (.loc 16 0), .close (.loc 13 0)])] [] [.close (.loc 52 0), .close (.loc 28 0), .close (.loc 25 0), .close (.loc 16 0), .close (.loc 13 0)] [] [sh_TFa] [con_fb, con_f2z, con_f1l] R_f2f [] fun y => [V.Cb (V.unit), e_TFa y]
def S_f2f : AO :=
 Aj Tryz.f118 2 1 X_f2f (fun x => [(V.ptr (.par 0) []), (V.int .i64) x.1, e_TFa x.2]) fun l => (dI (at_ l 1), d_TFa (at_ l 2))
def tt_f2f (x : X_f2f) : TT Tryz.prog R_f2f :=
 (.need (A6 x.fst x.snd.rings.n) <|
 (.need (((Nat.beq x.snd.rings.n x.snd.rings.n) && true) && (!(x.snd.rings.get ((0 : Nat) + (Int.toNat x.fst))).nil)) <|
 (.call con_f2z (x.snd.rings.get ((0 : Nat) + (Int.toNat x.fst))).x fun (y1 : R_f2z) =>
 (.need ((true && true) && ((Nat.beq x.snd.rings.n x.snd.rings.n) && (Nat.blt ((0 : Nat) + (Int.toNat x.fst)) x.snd.rings.n))) <|
 (.side ((fun v : Nat → V => v = v) (fun i2 => (cond (Nat.beq i2 ((0 : Nat) + (Int.toNat x.fst))) (V.ptr (Id.loc 16 0) List.nil) (V.Am (x.snd.rings.get i2).nil (V.cons (V.cons (V.int IntKind.u64 (x.snd.rings.get i2).x.AA.tail) (V.cons (V.BA 36 1 (x.snd.rings.get i2).x.AA.AD.nil (x.snd.rings.get i2).x.AA.AD.n (fun i3 => (V.int IntKind.u64 ((x.snd.rings.get i2).x.AA.AD.get i3)))) V.unit)) (V.cons (V.Am (x.snd.rings.get i2).x.s.nil (V.cons (V.BA 175 3 (x.snd.rings.get i2).x.s.x.l.nil (x.snd.rings.get i2).x.s.x.l.n (fun i3 => (V.cons (V.int IntKind.u64 ((x.snd.rings.get i2).x.s.x.l.get i3).AP) (V.cons (V.int IntKind.u64 ((x.snd.rings.get i2).x.s.x.l.get i3).Value) (V.cons (V.int IntKind.i64 ((x.snd.rings.get i2).x.s.x.l.get i3).Left) V.unit))))) (V.cons (V.int IntKind.i64 (x.snd.rings.get i2).x.s.x.AX) V.unit))) (V.cons (V.int IntKind.u64 (x.snd.rings.get i2).x.most) (V.cons (V.bool (x.snd.rings.get i2).x.closed) V.unit)))))))) <|
 (.need ((true && true) && (Nat.beq x.snd.rings.n x.snd.rings.n)) <|
 (.ite (!(AW y1.snd.fst 10))
 (.ret (TFa.mk x.snd.p x.snd.threads (Sl.mk x.snd.rings.nil x.snd.rings.n (fun i2 => (Bx.mk (cond (Nat.beq i2 ((0 : Nat) + (Int.toNat x.fst))) false (x.snd.rings.get i2).nil) (TRr.mk (TRc.mk (cond (Nat.beq i2 ((0 : Nat) + (Int.toNat x.fst))) y1.snd.snd.AA.tail (x.snd.rings.get i2).x.AA.tail) (Sl.mk (cond (Nat.beq i2 ((0 : Nat) + (Int.toNat x.fst))) y1.snd.snd.AA.AD.nil (x.snd.rings.get i2).x.AA.AD.nil) (cond (Nat.beq i2 ((0 : Nat) + (Int.toNat x.fst))) y1.snd.snd.AA.AD.n (x.snd.rings.get i2).x.AA.AD.n) (fun i3 => (cond (Nat.beq i2 ((0 : Nat) + (Int.toNat x.fst))) (y1.snd.snd.AA.AD.get i3) ((x.snd.rings.get i2).x.AA.AD.get i3))))) (Bx.mk (cond (Nat.beq i2 ((0 : Nat) + (Int.toNat x.fst))) y1.snd.snd.s.nil (x.snd.rings.get i2).x.s.nil) (TSs.mk (Sl.mk (cond (Nat.beq i2 ((0 : Nat) + (Int.toNat x.fst))) y1.snd.snd.s.x.l.nil (x.snd.rings.get i2).x.s.x.l.nil) (cond (Nat.beq i2 ((0 : Nat) + (Int.toNat x.fst))) y1.snd.snd.s.x.l.n (x.snd.rings.get i2).x.s.x.l.n) (fun i3 => (TSo.mk (cond (Nat.beq i2 ((0 : Nat) + (Int.toNat x.fst))) (y1.snd.snd.s.x.l.get i3).AP ((x.snd.rings.get i2).x.s.x.l.get i3).AP) (cond (Nat.beq i2 ((0 : Nat) + (Int.toNat x.fst))) (y1.snd.snd.s.x.l.get i3).Value ((x.snd.rings.get i2).x.s.x.l.get i3).Value) (cond (Nat.beq i2 ((0 : Nat) + (Int.toNat x.fst))) (y1.snd.snd.s.x.l.get i3).Left ((x.snd.rings.get i2).x.s.x.l.get i3).Left)))) (cond (Nat.beq i2 ((0 : Nat) + (Int.toNat x.fst))) y1.snd.snd.s.x.AX (x.snd.rings.get i2).x.s.x.AX))) (cond (Nat.beq i2 ((0 : Nat) + (Int.toNat x.fst))) y1.snd.snd.most (x.snd.rings.get i2).x.most) (cond (Nat.beq i2 ((0 : Nat) + (Int.toNat x.fst))) y1.snd.snd.closed (x.snd.rings.get i2).x.closed))))) x.snd.now x.snd.reads x.snd.ended))
 (.need (A6 x.fst x.snd.rings.n) <|
 (.need (((Nat.beq x.snd.rings.n x.snd.rings.n) && true) && (!(cond (Nat.beq ((0 : Nat) + (Int.toNat x.fst)) ((0 : Nat) + (Int.toNat x.fst))) false (x.snd.rings.get ((0 : Nat) + (Int.toNat x.fst))).nil))) <|
 (.call con_f1l (TRr.mk (TRc.mk (cond (Nat.beq ((0 : Nat) + (Int.toNat x.fst)) ((0 : Nat) + (Int.toNat x.fst))) y1.snd.snd.AA.tail (x.snd.rings.get ((0 : Nat) + (Int.toNat x.fst))).x.AA.tail) (Sl.mk (cond (Nat.beq ((0 : Nat) + (Int.toNat x.fst)) ((0 : Nat) + (Int.toNat x.fst))) y1.snd.snd.AA.AD.nil (x.snd.rings.get ((0 : Nat) + (Int.toNat x.fst))).x.AA.AD.nil) (cond (Nat.beq ((0 : Nat) + (Int.toNat x.fst)) ((0 : Nat) + (Int.toNat x.fst))) y1.snd.snd.AA.AD.n (x.snd.rings.get ((0 : Nat) + (Int.toNat x.fst))).x.AA.AD.n) (fun i2 => (cond (Nat.beq ((0 : Nat) + (Int.toNat x.fst)) ((0 : Nat) + (Int.toNat x.fst))) (y1.snd.snd.AA.AD.get i2) ((x.snd.rings.get ((0 : Nat) + (Int.toNat x.fst))).x.AA.AD.get i2))))) (Bx.mk (cond (Nat.beq ((0 : Nat) + (Int.toNat x.fst)) ((0 : Nat) + (Int.toNat x.fst))) y1.snd.snd.s.nil (x.snd.rings.get ((0 : Nat) + (Int.toNat x.fst))).x.s.nil) (TSs.mk (Sl.mk (cond (Nat.beq ((0 : Nat) + (Int.toNat x.fst)) ((0 : Nat) + (Int.toNat x.fst))) y1.snd.snd.s.x.l.nil (x.snd.rings.get ((0 : Nat) + (Int.toNat x.fst))).x.s.x.l.nil) (cond (Nat.beq ((0 : Nat) + (Int.toNat x.fst)) ((0 : Nat) + (Int.toNat x.fst))) y1.snd.snd.s.x.l.n (x.snd.rings.get ((0 : Nat) + (Int.toNat x.fst))).x.s.x.l.n) (fun i2 => (TSo.mk (cond (Nat.beq ((0 : Nat) + (Int.toNat x.fst)) ((0 : Nat) + (Int.toNat x.fst))) (y1.snd.snd.s.x.l.get i2).AP ((x.snd.rings.get ((0 : Nat) + (Int.toNat x.fst))).x.s.x.l.get i2).AP) (cond (Nat.beq ((0 : Nat) + (Int.toNat x.fst)) ((0 : Nat) + (Int.toNat x.fst))) (y1.snd.snd.s.x.l.get i2).Value ((x.snd.rings.get ((0 : Nat) + (Int.toNat x.fst))).x.s.x.l.get i2).Value) (cond (Nat.beq ((0 : Nat) + (Int.toNat x.fst)) ((0 : Nat) + (Int.toNat x.fst))) (y1.snd.snd.s.x.l.get i2).Left ((x.snd.rings.get ((0 : Nat) + (Int.toNat x.fst))).x.s.x.l.get i2).Left)))) (cond (Nat.beq ((0 : Nat) + (Int.toNat x.fst)) ((0 : Nat) + (Int.toNat x.fst))) y1.snd.snd.s.x.AX (x.snd.rings.get ((0 : Nat) + (Int.toNat x.fst))).x.s.x.AX))) (cond (Nat.beq ((0 : Nat) + (Int.toNat x.fst)) ((0 : Nat) + (Int.toNat x.fst))) y1.snd.snd.most (x.snd.rings.get ((0 : Nat) + (Int.toNat x.fst))).x.most) (cond (Nat.beq ((0 : Nat) + (Int.toNat x.fst)) ((0 : Nat) + (Int.toNat x.fst))) y1.snd.snd.closed (x.snd.rings.get ((0 : Nat) + (Int.toNat x.fst))).x.closed)) fun (y2 : R_f1l) =>
 (.need ((true && true) && ((Nat.beq x.snd.rings.n x.snd.rings.n) && (Nat.blt ((0 : Nat) + (Int.toNat x.fst)) x.snd.rings.n))) <|
 (.side ((fun v : Nat → V => v = v) (fun i3 => (cond (Nat.beq i3 ((0 : Nat) + (Int.toNat x.fst))) (V.ptr (Id.loc 28 0) List.nil) (V.Am (cond (Nat.beq i3 ((0 : Nat) + (Int.toNat x.fst))) false (x.snd.rings.get i3).nil) (V.cons (V.cons (V.int IntKind.u64 (cond (Nat.beq i3 ((0 : Nat) + (Int.toNat x.fst))) y1.snd.snd.AA.tail (x.snd.rings.get i3).x.AA.tail)) (V.cons (V.BA 36 1 (cond (Nat.beq i3 ((0 : Nat) + (Int.toNat x.fst))) y1.snd.snd.AA.AD.nil (x.snd.rings.get i3).x.AA.AD.nil) (cond (Nat.beq i3 ((0 : Nat) + (Int.toNat x.fst))) y1.snd.snd.AA.AD.n (x.snd.rings.get i3).x.AA.AD.n) (fun i4 => (V.int IntKind.u64 (cond (Nat.beq i3 ((0 : Nat) + (Int.toNat x.fst))) (y1.snd.snd.AA.AD.get i4) ((x.snd.rings.get i3).x.AA.AD.get i4))))) V.unit)) (V.cons (V.Am (cond (Nat.beq i3 ((0 : Nat) + (Int.toNat x.fst))) y1.snd.snd.s.nil (x.snd.rings.get i3).x.s.nil) (V.cons (V.BA 175 3 (cond (Nat.beq i3 ((0 : Nat) + (Int.toNat x.fst))) y1.snd.snd.s.x.l.nil (x.snd.rings.get i3).x.s.x.l.nil) (cond (Nat.beq i3 ((0 : Nat) + (Int.toNat x.fst))) y1.snd.snd.s.x.l.n (x.snd.rings.get i3).x.s.x.l.n) (fun i4 => (V.cons (V.int IntKind.u64 (cond (Nat.beq i3 ((0 : Nat) + (Int.toNat x.fst))) (y1.snd.snd.s.x.l.get i4).AP ((x.snd.rings.get i3).x.s.x.l.get i4).AP)) (V.cons (V.int IntKind.u64 (cond (Nat.beq i3 ((0 : Nat) + (Int.toNat x.fst))) (y1.snd.snd.s.x.l.get i4).Value ((x.snd.rings.get i3).x.s.x.l.get i4).Value)) (V.cons (V.int IntKind.i64 (cond (Nat.beq i3 ((0 : Nat) + (Int.toNat x.fst))) (y1.snd.snd.s.x.l.get i4).Left ((x.snd.rings.get i3).x.s.x.l.get i4).Left)) V.unit))))) (V.cons (V.int IntKind.i64 (cond (Nat.beq i3 ((0 : Nat) + (Int.toNat x.fst))) y1.snd.snd.s.x.AX (x.snd.rings.get i3).x.s.x.AX)) V.unit))) (V.cons (V.int IntKind.u64 (cond (Nat.beq i3 ((0 : Nat) + (Int.toNat x.fst))) y1.snd.snd.most (x.snd.rings.get i3).x.most)) (V.cons (V.bool (cond (Nat.beq i3 ((0 : Nat) + (Int.toNat x.fst))) y1.snd.snd.closed (x.snd.rings.get i3).x.closed)) V.unit)))))))) <|
 (.need ((true && true) && (Nat.beq x.snd.rings.n x.snd.rings.n)) <|
 (.need (A6 x.fst x.snd.p.AF.n) <|
 (.call con_fb ((x.snd.p.AF.get (Int.toNat x.fst)), (TRs.mk (IntKind.u64.wrap (y2.A0 + 1)) y2.AV y2.As y2.Al)) fun (y3 : R_fb) =>
 (.ite (AW y3.snd 0)
 (.need (A6 x.fst x.snd.rings.n) <|
 (.need ((Nat.beq x.snd.rings.n x.snd.rings.n) && true) <|
 (.need ((true && true) && (Nat.beq x.snd.rings.n x.snd.rings.n)) <|
 (.ret (TFa.mk x.snd.p x.snd.threads (Sl.mk x.snd.rings.nil x.snd.rings.n (fun i4 => (Bx.mk (cond (Nat.beq i4 ((0 : Nat) + (Int.toNat x.fst))) y3.fst.nil (cond (Nat.beq i4 ((0 : Nat) + (Int.toNat x.fst))) false (cond (Nat.beq i4 ((0 : Nat) + (Int.toNat x.fst))) false (x.snd.rings.get i4).nil))) (TRr.mk (TRc.mk (cond (Nat.beq i4 ((0 : Nat) + (Int.toNat x.fst))) y3.fst.x.AA.tail (cond (Nat.beq i4 ((0 : Nat) + (Int.toNat x.fst))) (cond (Nat.beq ((0 : Nat) + (Int.toNat x.fst)) ((0 : Nat) + (Int.toNat x.fst))) y1.snd.snd.AA.tail (x.snd.rings.get ((0 : Nat) + (Int.toNat x.fst))).x.AA.tail) (cond (Nat.beq i4 ((0 : Nat) + (Int.toNat x.fst))) y1.snd.snd.AA.tail (x.snd.rings.get i4).x.AA.tail))) (Sl.mk (cond (Nat.beq i4 ((0 : Nat) + (Int.toNat x.fst))) y3.fst.x.AA.AD.nil (cond (Nat.beq i4 ((0 : Nat) + (Int.toNat x.fst))) (cond (Nat.beq ((0 : Nat) + (Int.toNat x.fst)) ((0 : Nat) + (Int.toNat x.fst))) y1.snd.snd.AA.AD.nil (x.snd.rings.get ((0 : Nat) + (Int.toNat x.fst))).x.AA.AD.nil) (cond (Nat.beq i4 ((0 : Nat) + (Int.toNat x.fst))) y1.snd.snd.AA.AD.nil (x.snd.rings.get i4).x.AA.AD.nil))) (cond (Nat.beq i4 ((0 : Nat) + (Int.toNat x.fst))) y3.fst.x.AA.AD.n (cond (Nat.beq i4 ((0 : Nat) + (Int.toNat x.fst))) (cond (Nat.beq ((0 : Nat) + (Int.toNat x.fst)) ((0 : Nat) + (Int.toNat x.fst))) y1.snd.snd.AA.AD.n (x.snd.rings.get ((0 : Nat) + (Int.toNat x.fst))).x.AA.AD.n) (cond (Nat.beq i4 ((0 : Nat) + (Int.toNat x.fst))) y1.snd.snd.AA.AD.n (x.snd.rings.get i4).x.AA.AD.n))) (fun i5 => (cond (Nat.beq i4 ((0 : Nat) + (Int.toNat x.fst))) (y3.fst.x.AA.AD.get i5) (cond (Nat.beq i4 ((0 : Nat) + (Int.toNat x.fst))) (cond (Nat.beq ((0 : Nat) + (Int.toNat x.fst)) ((0 : Nat) + (Int.toNat x.fst))) (y1.snd.snd.AA.AD.get i5) ((x.snd.rings.get ((0 : Nat) + (Int.toNat x.fst))).x.AA.AD.get i5)) (cond (Nat.beq i4 ((0 : Nat) + (Int.toNat x.fst))) (y1.snd.snd.AA.AD.get i5) ((x.snd.rings.get i4).x.AA.AD.get i5))))))) (Bx.mk (cond (Nat.beq i4 ((0 : Nat) + (Int.toNat x.fst))) y3.fst.x.s.nil (cond (Nat.beq i4 ((0 : Nat) + (Int.toNat x.fst))) (cond (Nat.beq ((0 : Nat) + (Int.toNat x.fst)) ((0 : Nat) + (Int.toNat x.fst))) y1.snd.snd.s.nil (x.snd.rings.get ((0 : Nat) + (Int.toNat x.fst))).x.s.nil) (cond (Nat.beq i4 ((0 : Nat) + (Int.toNat x.fst))) y1.snd.snd.s.nil (x.snd.rings.get i4).x.s.nil))) (TSs.mk (Sl.mk (cond (Nat.beq i4 ((0 : Nat) + (Int.toNat x.fst))) y3.fst.x.s.x.l.nil (cond (Nat.beq i4 ((0 : Nat) + (Int.toNat x.fst))) (cond (Nat.beq ((0 : Nat) + (Int.toNat x.fst)) ((0 : Nat) + (Int.toNat x.fst))) y1.snd.snd.s.x.l.nil (x.snd.rings.get ((0 : Nat) + (Int.toNat x.fst))).x.s.x.l.nil) (cond (Nat.beq i4 ((0 : Nat) + (Int.toNat x.fst))) y1.snd.snd.s.x.l.nil (x.snd.rings.get i4).x.s.x.l.nil))) (cond (Nat.beq i4 ((0 : Nat) + (Int.toNat x.fst))) y3.fst.x.s.x.l.n (cond (Nat.beq i4 ((0 : Nat) + (Int.toNat x.fst))) (cond (Nat.beq ((0 : Nat) + (Int.toNat x.fst)) ((0 : Nat) + (Int.toNat x.fst))) y1.snd.snd.s.x.l.n (x.snd.rings.get ((0 : Nat) + (Int.toNat x.fst))).x.s.x.l.n) (cond (Nat.beq i4 ((0 : Nat) + (Int.toNat x.fst))) y1.snd.snd.s.x.l.n (x.snd.rings.get i4).x.s.x.l.n))) (fun i5 => (TSo.mk (cond (Nat.beq i4 ((0 : Nat) + (Int.toNat x.fst))) (y3.fst.x.s.x.l.get i5).AP (cond (Nat.beq i4 ((0 : Nat) + (Int.toNat x.fst))) (cond (Nat.beq ((0 : Nat) + (Int.toNat x.fst)) ((0 : Nat) + (Int.toNat x.fst))) (y1.snd.snd.s.x.l.get i5).AP ((x.snd.rings.get ((0 : Nat) + (Int.toNat x.fst))).x.s.x.l.get i5).AP) (cond (Nat.beq i4 ((0 : Nat) + (Int.toNat x.fst))) (y1.snd.snd.s.x.l.get i5).AP ((x.snd.rings.get i4).x.s.x.l.get i5).AP))) (cond (Nat.beq i4 ((0 : Nat) + (Int.toNat x.fst))) (y3.fst.x.s.x.l.get i5).Value (cond (Nat.beq i4 ((0 : Nat) + (Int.toNat x.fst))) (cond (Nat.beq ((0 : Nat) + (Int.toNat x.fst)) ((0 : Nat) + (Int.toNat x.fst))) (y1.snd.snd.s.x.l.get i5).Value ((x.snd.rings.get ((0 : Nat) + (Int.toNat x.fst))).x.s.x.l.get i5).Value) (cond (Nat.beq i4 ((0 : Nat) + (Int.toNat x.fst))) (y1.snd.snd.s.x.l.get i5).Value ((x.snd.rings.get i4).x.s.x.l.get i5).Value))) (cond (Nat.beq i4 ((0 : Nat) + (Int.toNat x.fst))) (y3.fst.x.s.x.l.get i5).Left (cond (Nat.beq i4 ((0 : Nat) + (Int.toNat x.fst))) (cond (Nat.beq ((0 : Nat) + (Int.toNat x.fst)) ((0 : Nat) + (Int.toNat x.fst))) (y1.snd.snd.s.x.l.get i5).Left ((x.snd.rings.get ((0 : Nat) + (Int.toNat x.fst))).x.s.x.l.get i5).Left) (cond (Nat.beq i4 ((0 : Nat) + (Int.toNat x.fst))) (y1.snd.snd.s.x.l.get i5).Left ((x.snd.rings.get i4).x.s.x.l.get i5).Left)))))) (cond (Nat.beq i4 ((0 : Nat) + (Int.toNat x.fst))) y3.fst.x.s.x.AX (cond (Nat.beq i4 ((0 : Nat) + (Int.toNat x.fst))) (cond (Nat.beq ((0 : Nat) + (Int.toNat x.fst)) ((0 : Nat) + (Int.toNat x.fst))) y1.snd.snd.s.x.AX (x.snd.rings.get ((0 : Nat) + (Int.toNat x.fst))).x.s.x.AX) (cond (Nat.beq i4 ((0 : Nat) + (Int.toNat x.fst))) y1.snd.snd.s.x.AX (x.snd.rings.get i4).x.s.x.AX))))) (cond (Nat.beq i4 ((0 : Nat) + (Int.toNat x.fst))) y3.fst.x.most (cond (Nat.beq i4 ((0 : Nat) + (Int.toNat x.fst))) (cond (Nat.beq ((0 : Nat) + (Int.toNat x.fst)) ((0 : Nat) + (Int.toNat x.fst))) y1.snd.snd.most (x.snd.rings.get ((0 : Nat) + (Int.toNat x.fst))).x.most) (cond (Nat.beq i4 ((0 : Nat) + (Int.toNat x.fst))) y1.snd.snd.most (x.snd.rings.get i4).x.most))) (cond (Nat.beq i4 ((0 : Nat) + (Int.toNat x.fst))) y3.fst.x.closed (cond (Nat.beq i4 ((0 : Nat) + (Int.toNat x.fst))) (cond (Nat.beq ((0 : Nat) + (Int.toNat x.fst)) ((0 : Nat) + (Int.toNat x.fst))) y1.snd.snd.closed (x.snd.rings.get ((0 : Nat) + (Int.toNat x.fst))).x.closed) (cond (Nat.beq i4 ((0 : Nat) + (Int.toNat x.fst))) y1.snd.snd.closed (x.snd.rings.get i4).x.closed))))))) x.snd.now x.snd.reads x.snd.ended)))))
 (.ret (TFa.mk x.snd.p x.snd.threads (Sl.mk x.snd.rings.nil x.snd.rings.n (fun i4 => (Bx.mk (cond (Nat.beq i4 ((0 : Nat) + (Int.toNat x.fst))) false (cond (Nat.beq i4 ((0 : Nat) + (Int.toNat x.fst))) false (x.snd.rings.get i4).nil)) (TRr.mk (TRc.mk (cond (Nat.beq i4 ((0 : Nat) + (Int.toNat x.fst))) (cond (Nat.beq ((0 : Nat) + (Int.toNat x.fst)) ((0 : Nat) + (Int.toNat x.fst))) y1.snd.snd.AA.tail (x.snd.rings.get ((0 : Nat) + (Int.toNat x.fst))).x.AA.tail) (cond (Nat.beq i4 ((0 : Nat) + (Int.toNat x.fst))) y1.snd.snd.AA.tail (x.snd.rings.get i4).x.AA.tail)) (Sl.mk (cond (Nat.beq i4 ((0 : Nat) + (Int.toNat x.fst))) (cond (Nat.beq ((0 : Nat) + (Int.toNat x.fst)) ((0 : Nat) + (Int.toNat x.fst))) y1.snd.snd.AA.AD.nil (x.snd.rings.get ((0 : Nat) + (Int.toNat x.fst))).x.AA.AD.nil) (cond (Nat.beq i4 ((0 : Nat) + (Int.toNat x.fst))) y1.snd.snd.AA.AD.nil (x.snd.rings.get i4).x.AA.AD.nil)) (cond (Nat.beq i4 ((0 : Nat) + (Int.toNat x.fst))) (cond (Nat.beq ((0 : Nat) + (Int.toNat x.fst)) ((0 : Nat) + (Int.toNat x.fst))) y1.snd.snd.AA.AD.n (x.snd.rings.get ((0 : Nat) + (Int.toNat x.fst))).x.AA.AD.n) (cond (Nat.beq i4 ((0 : Nat) + (Int.toNat x.fst))) y1.snd.snd.AA.AD.n (x.snd.rings.get i4).x.AA.AD.n)) (fun i5 => (cond (Nat.beq i4 ((0 : Nat) + (Int.toNat x.fst))) (cond (Nat.beq ((0 : Nat) + (Int.toNat x.fst)) ((0 : Nat) + (Int.toNat x.fst))) (y1.snd.snd.AA.AD.get i5) ((x.snd.rings.get ((0 : Nat) + (Int.toNat x.fst))).x.AA.AD.get i5)) (cond (Nat.beq i4 ((0 : Nat) + (Int.toNat x.fst))) (y1.snd.snd.AA.AD.get i5) ((x.snd.rings.get i4).x.AA.AD.get i5)))))) (Bx.mk (cond (Nat.beq i4 ((0 : Nat) + (Int.toNat x.fst))) (cond (Nat.beq ((0 : Nat) + (Int.toNat x.fst)) ((0 : Nat) + (Int.toNat x.fst))) y1.snd.snd.s.nil (x.snd.rings.get ((0 : Nat) + (Int.toNat x.fst))).x.s.nil) (cond (Nat.beq i4 ((0 : Nat) + (Int.toNat x.fst))) y1.snd.snd.s.nil (x.snd.rings.get i4).x.s.nil)) (TSs.mk (Sl.mk (cond (Nat.beq i4 ((0 : Nat) + (Int.toNat x.fst))) (cond (Nat.beq ((0 : Nat) + (Int.toNat x.fst)) ((0 : Nat) + (Int.toNat x.fst))) y1.snd.snd.s.x.l.nil (x.snd.rings.get ((0 : Nat) + (Int.toNat x.fst))).x.s.x.l.nil) (cond (Nat.beq i4 ((0 : Nat) + (Int.toNat x.fst))) y1.snd.snd.s.x.l.nil (x.snd.rings.get i4).x.s.x.l.nil)) (cond (Nat.beq i4 ((0 : Nat) + (Int.toNat x.fst))) (cond (Nat.beq ((0 : Nat) + (Int.toNat x.fst)) ((0 : Nat) + (Int.toNat x.fst))) y1.snd.snd.s.x.l.n (x.snd.rings.get ((0 : Nat) + (Int.toNat x.fst))).x.s.x.l.n) (cond (Nat.beq i4 ((0 : Nat) + (Int.toNat x.fst))) y1.snd.snd.s.x.l.n (x.snd.rings.get i4).x.s.x.l.n)) (fun i5 => (TSo.mk (cond (Nat.beq i4 ((0 : Nat) + (Int.toNat x.fst))) (cond (Nat.beq ((0 : Nat) + (Int.toNat x.fst)) ((0 : Nat) + (Int.toNat x.fst))) (y1.snd.snd.s.x.l.get i5).AP ((x.snd.rings.get ((0 : Nat) + (Int.toNat x.fst))).x.s.x.l.get i5).AP) (cond (Nat.beq i4 ((0 : Nat) + (Int.toNat x.fst))) (y1.snd.snd.s.x.l.get i5).AP ((x.snd.rings.get i4).x.s.x.l.get i5).AP)) (cond (Nat.beq i4 ((0 : Nat) + (Int.toNat x.fst))) (cond (Nat.beq ((0 : Nat) + (Int.toNat x.fst)) ((0 : Nat) + (Int.toNat x.fst))) (y1.snd.snd.s.x.l.get i5).Value ((x.snd.rings.get ((0 : Nat) + (Int.toNat x.fst))).x.s.x.l.get i5).Value) (cond (Nat.beq i4 ((0 : Nat) + (Int.toNat x.fst))) (y1.snd.snd.s.x.l.get i5).Value ((x.snd.rings.get i4).x.s.x.l.get i5).Value)) (cond (Nat.beq i4 ((0 : Nat) + (Int.toNat x.fst))) (cond (Nat.beq ((0 : Nat) + (Int.toNat x.fst)) ((0 : Nat) + (Int.toNat x.fst))) (y1.snd.snd.s.x.l.get i5).Left ((x.snd.rings.get ((0 : Nat) + (Int.toNat x.fst))).x.s.x.l.get i5).Left) (cond (Nat.beq i4 ((0 : Nat) + (Int.toNat x.fst))) (y1.snd.snd.s.x.l.get i5).Left ((x.snd.rings.get i4).x.s.x.l.get i5).Left))))) (cond (Nat.beq i4 ((0 : Nat) + (Int.toNat x.fst))) (cond (Nat.beq ((0 : Nat) + (Int.toNat x.fst)) ((0 : Nat) + (Int.toNat x.fst))) y1.snd.snd.s.x.AX (x.snd.rings.get ((0 : Nat) + (Int.toNat x.fst))).x.s.x.AX) (cond (Nat.beq i4 ((0 : Nat) + (Int.toNat x.fst))) y1.snd.snd.s.x.AX (x.snd.rings.get i4).x.s.x.AX)))) (cond (Nat.beq i4 ((0 : Nat) + (Int.toNat x.fst))) (cond (Nat.beq ((0 : Nat) + (Int.toNat x.fst)) ((0 : Nat) + (Int.toNat x.fst))) y1.snd.snd.most (x.snd.rings.get ((0 : Nat) + (Int.toNat x.fst))).x.most) (cond (Nat.beq i4 ((0 : Nat) + (Int.toNat x.fst))) y1.snd.snd.most (x.snd.rings.get i4).x.most)) (cond (Nat.beq i4 ((0 : Nat) + (Int.toNat x.fst))) (cond (Nat.beq ((0 : Nat) + (Int.toNat x.fst)) ((0 : Nat) + (Int.toNat x.fst))) y1.snd.snd.closed (x.snd.rings.get ((0 : Nat) + (Int.toNat x.fst))).x.closed) (cond (Nat.beq i4 ((0 : Nat) + (Int.toNat x.fst))) y1.snd.snd.closed (x.snd.rings.get i4).x.closed)))))) x.snd.now x.snd.reads x.snd.ended))))))))))))))))))
theorem sd_f2f (x : X_f2f) : (tt_f2f x).AJ :=
 (TT.sN (TT.sN (TT.sC fun _ => (TT.sN (TT.sS rfl (TT.sN (TT.sI TT.sR (TT.sN (TT.sN (TT.sC fun _ => (TT.sN (TT.sS rfl (TT.sN (TT.sN (TT.sC fun _ => (TT.sI (TT.sN (TT.sN (TT.sN TT.sR))) TT.sR))))))))))))))))
def D_f2f : AU X_f2f R_f2f := .of tt_f2f
def con_f2f : BE Tryz.prog :=
 B2 118 J_f2f S_f2f D_f2f 2 1 [.any, .any] (lk mxk lbn sd_f2f)
abbrev X_f30 : Type := Int × Int × TSs
abbrev R_f30 : Type := Int × TSs
def J_f30 : BM Tryz.prog :=
 BS Tryz.prog Tryz.f166 43 [] [(8, [.close (.loc 14 0)]), (10, [.close (.loc 14 0)]), (11, [.close (.loc 14 0)])] [(5, [.Ia (.par 0) [.CI 0 0] 14])] [.close (.loc 14 0)] [.any] [sh_TSs] [con_fu, con_f2s, con_f3b] R_f30 [(0, [⟨.loc 14 0, .par 0, [.CI 0 0], none, none⟩])] fun y => [(V.int .i64) y.1, e_TSs y.2]
def S_f30 : AO :=
 Aj Tryz.f166 3 1 X_f30 (fun x => [(V.ptr (.par 0) []), (V.int .u64) x.1, (V.int .u64) x.2.1, e_TSs x.2.2]) fun l => (dI (at_ l 1), dI (at_ l 2), d_TSs (at_ l 3))
def tt_f30 (x : X_f30) : TT Tryz.prog R_f30 :=
 (.ite (Bw 4611686018427387904 x.fst)
 (.ret (1, x.snd.snd))
 (.call con_fu (x.fst, ((TSs_L0.mk (Ln.mk x.snd.snd.l.nil x.snd.snd.l.n) x.snd.snd.AX), (Ar.mk x.snd.snd.l.n x.snd.snd.l.get))) fun (y1 : R_fu) =>
 (.need ((Nat.beq x.snd.snd.l.n y1.snd) && true) <|
 (.call con_f2s x.fst fun (y2 : R_f2s) =>
 (.ite (Bq (x.snd.snd.l.get y1.fst).AP y2)
 (.need ((true && true) && (Nat.beq x.snd.snd.l.n x.snd.snd.l.n)) <|
 (.ret (8, x.snd.snd)))
 (.need ((Nat.beq x.snd.snd.l.n y1.snd) && true) <|
 (.call con_f2s x.fst fun (y3 : R_f2s) =>
 (.ite (Bq y3 (x.snd.snd.l.get y1.fst).AP)
 (.need ((true && true) && (Nat.beq x.snd.snd.l.n x.snd.snd.l.n)) <|
 (.ret (11, x.snd.snd)))
 (.call con_f3b x.fst fun (y4 : R_f3b) =>
 (.need (Bw 0 x.snd.snd.AX) <|
 (.need ((Nat.beq x.snd.snd.l.n y1.snd) && true) <|
 (.need ((true && true) && (Nat.beq x.snd.snd.l.n x.snd.snd.l.n)) <|
 (.ret (0, (TSs.mk (Sl.mk x.snd.snd.l.nil x.snd.snd.l.n (fun i5 => (TSo.mk (cond (Nat.beq i5 y1.fst) y4 (x.snd.snd.l.get i5).AP) (cond (Nat.beq i5 y1.fst) x.snd.fst (x.snd.snd.l.get i5).Value) (cond (Nat.beq i5 y1.fst) (IntKind.i64.wrap ((shl IntKind.i64 1 x.snd.snd.AX) - 1)) (x.snd.snd.l.get i5).Left)))) x.snd.snd.AX)))))))))))))))
theorem sd_f30 (x : X_f30) : (tt_f30 x).AJ :=
 (TT.sI TT.sR (TT.sC fun _ => (TT.sN (TT.sC fun _ => (TT.sI (TT.sN TT.sR) (TT.sN (TT.sC fun _ => (TT.sI (TT.sN TT.sR) (TT.sC fun _ => (TT.sN (TT.sN (TT.sN TT.sR))))))))))))
def D_f30 : AU X_f30 R_f30 := .of tt_f30
def con_f30 : BE Tryz.prog :=
 B2 166 J_f30 S_f30 D_f30 3 1 [.any, .any, .any] (lk mxk lbn sd_f30)
abbrev X_f2n : Type := Int × Int × TRr
abbrev R_f2n : Type := Int × TRr
def J_f2n : BM Tryz.prog :=
 BS Tryz.prog Tryz.f119 25 [] [] [] [.close (.loc 21 0)] [.any] [sh_TRr] [con_f30] R_f2n [] fun y => [(V.int .i64) y.1, e_TRr y.2]
def S_f2n : AO :=
 Aj Tryz.f119 3 1 X_f2n (fun x => [(V.ptr (.par 0) []), (V.int .u64) x.1, (V.int .u64) x.2.1, e_TRr x.2.2]) fun l => (dI (at_ l 1), dI (at_ l 2), d_TRr (at_ l 3))
def tt_f2n (x : X_f2n) : TT Tryz.prog R_f2n :=
 (.ite (Bw x.snd.snd.AA.tail x.fst)
 (.ret (11, x.snd.snd))
 (.need (true && (!x.snd.snd.s.nil)) <|
 (.call con_f30 (x.fst, (x.snd.fst, x.snd.snd.s.x)) fun (y1 : R_f30) =>
 (.ret (y1.fst, (TRr.mk x.snd.snd.AA (Bx.mk false y1.snd) x.snd.snd.most x.snd.snd.closed))))))
theorem sd_f2n (x : X_f2n) : (tt_f2n x).AJ :=
 (TT.sI TT.sR (TT.sN (TT.sC fun _ => TT.sR)))
def D_f2n : AU X_f2n R_f2n := .of tt_f2n
def con_f2n : BE Tryz.prog :=
 B2 119 J_f2n S_f2n D_f2n 3 1 [.any, .any, .any] (lk mxk lbn sd_f2n)
abbrev X_f1c : Type := Int × TRr
abbrev R_f1c : Type := Int × Int × TRr
def J_f1c : BM Tryz.prog :=
 BS Tryz.prog Tryz.f120 49 [] [(10, [.close (.loc 34 0)])] [] [.close (.loc 44 0), .close (.loc 34 0)] [.any, .any] [sh_TRr] [con_f18, con_fy] R_f1c [] fun y => [V.Cb (V.cons ((V.int .u64) y.1) (V.cons ((V.int .i64) y.2.1) (V.unit))), e_TRr y.2.2]
def S_f1c : AO :=
 Aj Tryz.f120 2 1 X_f1c (fun x => [(V.ptr (.par 0) []), (V.int .i64) x.1, e_TRr x.2]) fun l => (dI (at_ l 1), d_TRr (at_ l 2))
structure X_f1c_9 where
 FY : Int
 Ah : TRr
def S_f1c_9 : AO :=
 Ad Tryz.f120 9 (an [0, 1]) [sh_TRr] [] X_f1c_9 (fun x => [(V.ptr (.par 0) []), (V.int .i64) x.FY, e_TRr x.Ah]) fun l => ⟨dI (at_ l 1), d_TRr (at_ l 2)⟩
def tt_f1c_9 (x : X_f1c_9) : TT Tryz.prog R_f1c :=
 (.need (A6 x.FY x.Ah.AA.AD.n) <|
 (.need ((Nat.beq x.Ah.AA.AD.n x.Ah.AA.AD.n) && true) <|
 (.need (A6 x.FY x.Ah.AA.AD.n) <|
 (.need ((Nat.beq x.Ah.AA.AD.n x.Ah.AA.AD.n) && true) <|
 (.need ((true && true) && (Nat.beq x.Ah.AA.AD.n x.Ah.AA.AD.n)) <|
 (.need (A6 x.FY x.Ah.AA.AD.n) <|
 (.need ((Nat.beq x.Ah.AA.AD.n x.Ah.AA.AD.n) && true) <|
 (.need ((true && true) && (Nat.beq x.Ah.AA.AD.n x.Ah.AA.AD.n)) <|
 (.ret ((IntKind.u64.wrap ((cond (Nat.beq ((0 : Nat) + (Int.toNat x.FY)) ((0 : Nat) + (Int.toNat x.FY))) (IntKind.u64.wrap ((x.Ah.AA.AD.get ((0 : Nat) + (Int.toNat x.FY))) + 1)) (x.Ah.AA.AD.get ((0 : Nat) + (Int.toNat x.FY)))) - 1)), (0, (TRr.mk (TRc.mk x.Ah.AA.tail (Sl.mk x.Ah.AA.AD.nil x.Ah.AA.AD.n (fun i1 => (cond (Nat.beq i1 ((0 : Nat) + (Int.toNat x.FY))) (IntKind.u64.wrap ((x.Ah.AA.AD.get ((0 : Nat) + (Int.toNat x.FY))) + 1)) (x.Ah.AA.AD.get i1))))) x.Ah.s x.Ah.most x.Ah.closed))))))))))))
theorem sd_f1c_9 (x : X_f1c_9) : (tt_f1c_9 x).AJ :=
 (TT.sN (TT.sN (TT.sN (TT.sN (TT.sN (TT.sN (TT.sN (TT.sN TT.sR))))))))
def D_f1c_9 : AU X_f1c_9 R_f1c := .of tt_f1c_9
theorem ok_f1c_9 : AY J_f1c S_f1c_9 D_f1c_9 :=
 lk mxk lbn sd_f1c_9
def tt_f1c (x : X_f1c) : TT Tryz.prog R_f1c :=
 (.call con_fy (x.fst, x.snd.AA) fun (y1 : R_fy) =>
 (.ite (!y1)
 (.ret (0, (1, x.snd)))
 (.call con_f18 x fun (y2 : R_f18) =>
 (.ite y2
 (.ite x.snd.closed
 (.ret (0, (10, x.snd)))
 (.call con_f18 x fun (y3 : R_f18) =>
 (.ite y3
 (.ret (0, (9, x.snd)))
 (.AM S_f1c_9 D_f1c_9 (X_f1c_9.mk x.fst x.snd)))))
 (.call con_f18 x fun (y3 : R_f18) =>
 (.ite y3
 (.ret (0, (9, x.snd)))
 (.AM S_f1c_9 D_f1c_9 (X_f1c_9.mk x.fst x.snd))))))))
theorem sd_f1c (x : X_f1c) : (tt_f1c x).AJ :=
 (TT.sC fun _ => (TT.sI TT.sR (TT.sC fun _ => (TT.sI (TT.sI TT.sR (TT.sC fun _ => (TT.sI TT.sR TT.sJ))) (TT.sC fun _ => (TT.sI TT.sR TT.sJ))))))
def D_f1c : AU X_f1c R_f1c := .of tt_f1c
def con_f1c : BE Tryz.prog :=
 B2 120 J_f1c S_f1c D_f1c 2 1 [.any, .any] (lk mxk (lbc ok_f1c_9 rfl lbn) sd_f1c)
abbrev X_f31 : Type := Int × Int × TSs
abbrev R_f31 : Type := Int × Int × TSs
def J_f31 : BM Tryz.prog :=
 BS Tryz.prog Tryz.f167 52 [] [(9, [.close (.loc 44 0), .close (.loc 20 0)])] [(4, [.Ia (.par 0) [.CI 0 0] 20])] [.close (.loc 44 0), .close (.loc 20 0)] [.any, .any] [sh_TSs] [con_fn, con_fu, con_f2s] R_f31 [(0, [⟨.loc 20 0, .par 0, [.CI 0 0], none, none⟩])] fun y => [V.Cb (V.cons ((V.int .u64) y.1) (V.cons ((V.int .i64) y.2.1) (V.unit))), e_TSs y.2.2]
def S_f31 : AO :=
 Aj Tryz.f167 3 1 X_f31 (fun x => [(V.ptr (.par 0) []), (V.int .i64) x.1, (V.int .u64) x.2.1, e_TSs x.2.2]) fun l => (dI (at_ l 1), dI (at_ l 2), d_TSs (at_ l 3))
def tt_f31 (x : X_f31) : TT Tryz.prog R_f31 :=
 (.call con_fn x fun (y1 : R_fn) =>
 (.ite (!(AW y1 0))
 (.ret (0, (y1, x.snd.snd)))
 (.call con_fu (x.snd.fst, ((TSs_L0.mk (Ln.mk x.snd.snd.l.nil x.snd.snd.l.n) x.snd.snd.AX), (Ar.mk x.snd.snd.l.n x.snd.snd.l.get))) fun (y2 : R_fu) =>
 (.need ((Nat.beq x.snd.snd.l.n y2.snd) && true) <|
 (.need ((Nat.beq x.snd.snd.l.n y2.snd) && true) <|
 (.need (Bw 0 x.fst) <|
 (.need ((Nat.beq x.snd.snd.l.n y2.snd) && true) <|
 (.need ((Nat.beq x.snd.snd.l.n y2.snd) && true) <|
 (.ite (AW (cond (Nat.beq y2.fst y2.fst) (Vm.bits .andNot IntKind.i64 (x.snd.snd.l.get y2.fst).Left (shl IntKind.i64 1 x.fst)) (x.snd.snd.l.get y2.fst).Left) 0)
 (.call con_f2s (IntKind.u64.wrap (x.snd.fst + (IntKind.u64.wrap ((x.snd.snd.l.n : Nat) : Int)))) fun (y3 : R_f2s) =>
 (.need ((Nat.beq x.snd.snd.l.n y2.snd) && true) <|
 (.need ((true && true) && (Nat.beq x.snd.snd.l.n x.snd.snd.l.n)) <|
 (.ret ((x.snd.snd.l.get y2.fst).Value, (0, (TSs.mk (Sl.mk x.snd.snd.l.nil x.snd.snd.l.n (fun i4 => (TSo.mk (cond (Nat.beq i4 y2.fst) y3 (cond (Nat.beq i4 y2.fst) (x.snd.snd.l.get y2.fst).AP (x.snd.snd.l.get i4).AP)) (cond (Nat.beq i4 y2.fst) (0 : Int) (cond (Nat.beq i4 y2.fst) (x.snd.snd.l.get y2.fst).Value (x.snd.snd.l.get i4).Value)) (cond (Nat.beq i4 y2.fst) (0 : Int) (cond (Nat.beq i4 y2.fst) (Vm.bits .andNot IntKind.i64 (x.snd.snd.l.get y2.fst).Left (shl IntKind.i64 1 x.fst)) (x.snd.snd.l.get i4).Left))))) x.snd.snd.AX)))))))
 (.need ((true && true) && (Nat.beq x.snd.snd.l.n x.snd.snd.l.n)) <|
 (.ret ((x.snd.snd.l.get y2.fst).Value, (0, (TSs.mk (Sl.mk x.snd.snd.l.nil x.snd.snd.l.n (fun i3 => (TSo.mk (cond (Nat.beq i3 y2.fst) (x.snd.snd.l.get y2.fst).AP (x.snd.snd.l.get i3).AP) (cond (Nat.beq i3 y2.fst) (x.snd.snd.l.get y2.fst).Value (x.snd.snd.l.get i3).Value) (cond (Nat.beq i3 y2.fst) (Vm.bits .andNot IntKind.i64 (x.snd.snd.l.get y2.fst).Left (shl IntKind.i64 1 x.fst)) (x.snd.snd.l.get i3).Left)))) x.snd.snd.AX))))))))))))))
theorem sd_f31 (x : X_f31) : (tt_f31 x).AJ :=
 (TT.sC fun _ => (TT.sI TT.sR (TT.sC fun _ => (TT.sN (TT.sN (TT.sN (TT.sN (TT.sN (TT.sI (TT.sC fun _ => (TT.sN (TT.sN TT.sR))) (TT.sN TT.sR))))))))))
def D_f31 : AU X_f31 R_f31 := .of tt_f31
def con_f31 : BE Tryz.prog :=
 B2 167 J_f31 S_f31 D_f31 3 1 [.any, .any, .any] (lk mxk lbn sd_f31)
abbrev X_f2o : Type := Int × Int × TRr
abbrev R_f2o : Type := Int × Int × TRr
def J_f2o : BM Tryz.prog :=
 BS Tryz.prog Tryz.f121 38 [] [(6, [.close (.loc 24 0)]), (7, [.close (.loc 24 0)])] [] [.close (.loc 32 0), .close (.loc 24 0)] [.any, .any] [sh_TRr] [con_fy, con_f31] R_f2o [] fun y => [V.Cb (V.cons ((V.int .u64) y.1) (V.cons ((V.int .i64) y.2.1) (V.unit))), e_TRr y.2.2]
def S_f2o : AO :=
 Aj Tryz.f121 3 1 X_f2o (fun x => [(V.ptr (.par 0) []), (V.int .i64) x.1, (V.int .u64) x.2.1, e_TRr x.2.2]) fun l => (dI (at_ l 1), dI (at_ l 2), d_TRr (at_ l 3))
def tt_f2o (x : X_f2o) : TT Tryz.prog R_f2o :=
 (.call con_fy (x.fst, x.snd.snd.AA) fun (y1 : R_fy) =>
 (.ite (!y1)
 (.ret (0, (1, x.snd.snd)))
 (.need (A6 x.fst x.snd.snd.AA.AD.n) <|
 (.need ((Nat.beq x.snd.snd.AA.AD.n x.snd.snd.AA.AD.n) && true) <|
 (.ite (Bw (x.snd.snd.AA.AD.get ((0 : Nat) + (Int.toNat x.fst))) x.snd.fst)
 (.need ((true && true) && (Nat.beq x.snd.snd.AA.AD.n x.snd.snd.AA.AD.n)) <|
 (.ret (0, (11, x.snd.snd))))
 (.need ((true && true) && (Nat.beq x.snd.snd.AA.AD.n x.snd.snd.AA.AD.n)) <|
 (.need (true && (!x.snd.snd.s.nil)) <|
 (.call con_f31 (x.fst, (x.snd.fst, x.snd.snd.s.x)) fun (y2 : R_f31) =>
 (.ret (y2.fst, (y2.snd.fst, (TRr.mk x.snd.snd.AA (Bx.mk false y2.snd.snd) x.snd.snd.most x.snd.snd.closed))))))))))))
theorem sd_f2o (x : X_f2o) : (tt_f2o x).AJ :=
 (TT.sC fun _ => (TT.sI TT.sR (TT.sN (TT.sN (TT.sI (TT.sN TT.sR) (TT.sN (TT.sN (TT.sC fun _ => TT.sR))))))))
def D_f2o : AU X_f2o R_f2o := .of tt_f2o
def con_f2o : BE Tryz.prog :=
 B2 121 J_f2o S_f2o D_f2o 3 1 [.any, .any, .any] (lk mxk lbn sd_f2o)
abbrev X_f32 : Type := TRr
abbrev R_f32 : Type := Int × TRr
def J_f32 : BM Tryz.prog :=
 BS Tryz.prog Tryz.f122 8 [] [] [] [] [.any] [sh_TRr] [] R_f32 [] fun y => [(V.int .i64) y.1, e_TRr y.2]
def S_f32 : AO :=
 Aj Tryz.f122 1 1 X_f32 (fun x => [(V.ptr (.par 0) []), e_TRr x]) fun l => (d_TRr (at_ l 1))
def tt_f32 (x : X_f32) : TT Tryz.prog R_f32 :=
 (.ret (0, (TRr.mk x.AA x.s x.most true)))
theorem sd_f32 (x : X_f32) : (tt_f32 x).AJ :=
 TT.sR
def D_f32 : AU X_f32 R_f32 := .of tt_f32
def con_f32 : BE Tryz.prog :=
 B2 122 J_f32 S_f32 D_f32 1 1 [.any] (lk mxk lbn sd_f32)
abbrev X_fe : Type := TEv × TFa
abbrev R_fe : Type := TFa
def J_fe : BM Tryz.prog :=
 BS Tryz.prog Tryz.f64 131 [(3, 3), (48, 1), (101, 1)] [(8, [.close (.loc 27 0), .close (.loc 23 0)]), (9, [.close (.loc 27 0), .close (.loc 23 0)]), (10, [.close (.loc 42 0), .close (.loc 38 0), .close (.loc 27 0), .close (.loc 23 0)]), (11, [.close (.loc 42 0), .close (.loc 38 0), .close (.loc 27 0), .close (.loc 23 0)]), (12, [.close (.loc 56 0), .close (.loc 52 0), .close (.loc 42 0), .close (.loc 38 0), .close (.loc 27 0), .close (.loc 23 0)]), (13, [.close (.loc 56 0), .close (.loc 52 0), .close (.loc 42 0), .close (.loc 38 0), .close (.loc 27 0), .close (.loc 23 0)]), (14, [.close (.loc 73 0), .close (.loc 69 0), .close (.loc 56 0), .close (.loc 52 0), .close (.loc 42 0), .close (.loc 38 0), .close (.loc 27 0), .close (.loc 23 0)]), (15, [.close (.loc 73 0), .close (.loc 69 0), .close (.loc 56 0), .close (.loc 52 0), .close (.loc 42 0), .close (.loc 38 0), .close (.loc 27 0), .close (.loc 23 0)]), (16, [.close (.loc 73 0), .close (.loc 69 0), .close (.loc 56 0), .close (.loc 52 0), .close (.loc 42 0), .close (.loc 38 0), .close (.loc 27 0), .close (.loc 23 0)]), (17, [.close (.loc 73 0), .close (.loc 69 0), .close (.loc 56 0), .close (.loc 52 0), .close (.loc 42 0), .close (.loc 38 0), .close (.loc 27 0), .close (.loc 23 0)]), (18, [.close (.loc 73 0), .close (.loc 69 0), .close (.loc 56 0), .close (.loc 52 0), .close (.loc 42 0), .close (.loc 38 0), .close (.loc 27 0), .close (.loc 23 0)]), (19, [.close (.loc 73 0), .close (.loc 69 0), .close (.loc 56 0), .close (.loc 52 0), .close (.loc 42 0), .close (.loc 38 0), .close (.loc 27 0), .close (.loc 23 0)]), (20, [.close (.loc 73 0), .close (.loc 69 0), .close (.loc 56 0), .close (.loc 52 0), .close (.loc 42 0), .close (.loc 38 0), .close (.loc 27 0), .close (.loc 23 0)])] [(7, [.Ia (.par 0) [.CI 2 3] 23]), (9, [.Ia (.par 0) [.CI 2 3] 38]), (11, [.Ia (.par 0) [.CI 2 3] 52]), (13, [.Ia (.par 0) [.CI 2 3] 69]), (20, [.Ia (.par 0) [.CI 1 2] 105, .Ia (.par 0) [.CI 1 2] 120])] [.close (.loc 120 0), .close (.loc 105 0), .close (.loc 73 0), .close (.loc 69 0), .close (.loc 56 0), .close (.loc 52 0), .close (.loc 42 0), .close (.loc 38 0), .close (.loc 27 0), .close (.loc 23 0)] [] [sh_TFa] [con_f1b, con_f2f, con_f32, con_f2n, con_f2o, con_f1c, con_f2a] R_fe [(0, [⟨.loc 23 0, .par 0, [.CI 2 3], none, none⟩, ⟨.loc 38 0, .par 0, [.CI 2 3], none, none⟩, ⟨.loc 52 0, .par 0, [.CI 2 3], none, none⟩, ⟨.loc 69 0, .par 0, [.CI 2 3], none, none⟩, ⟨.loc 105 0, .par 0, [.CI 1 2], none, none⟩, ⟨.loc 120 0, .par 0, [.CI 1 2], none, none⟩]), (20, [⟨.loc 23 0, .par 0, [.CI 2 3], none, none⟩, ⟨.loc 38 0, .par 0, [.CI 2 3], none, none⟩, ⟨.loc 52 0, .par 0, [.CI 2 3], none, none⟩, ⟨.loc 69 0, .par 0, [.CI 2 3], none, none⟩, ⟨.loc 105 0, .par 0, [.CI 1 2], none, none⟩, ⟨.loc 120 0, .par 0, [.CI 1 2], none, none⟩])] fun y => [V.Cb (V.unit), e_TFa y]
def S_fe : AO :=
 Aj Tryz.f64 2 1 X_fe (fun x => [(V.ptr (.par 0) []), e_TEv x.1, e_TFa x.2]) fun l => (d_TEv (at_ l 1), d_TFa (at_ l 2))
structure X_fe_20 where
 D1 : TEv
 v_5 : Int
 Ah : TFa
def S_fe_20 : AO :=
 Ad Tryz.f64 20 (an [0, 3, 5]) [sh_TFa] [] X_fe_20 (fun x => [(V.ptr (.par 0) []), (Ch e_TEv) x.D1, (V.int .u64) x.v_5, e_TFa x.Ah]) fun l => ⟨(Ci d_TEv) (at_ l 1), dI (at_ l 2), d_TFa (at_ l 3)⟩
def tt_fe_20 (x : X_fe_20) : TT Tryz.prog R_fe :=
 (.need (A6 x.D1.Thread x.Ah.p.AB.n) <|
 (.need (A6 x.D1.Thread x.Ah.threads.n) <|
 (.need ((Nat.beq x.Ah.threads.n x.Ah.threads.n) && true) <|
 (.call con_f2a ((x.Ah.p.AB.get (Int.toNat x.D1.Thread)), ((x.Ah.threads.get ((0 : Nat) + (Int.toNat x.D1.Thread))), (x.D1, x.v_5))) fun (y1 : R_f2a) =>
 (.need (A6 x.D1.Thread x.Ah.threads.n) <|
 (.need ((Nat.beq x.Ah.threads.n x.Ah.threads.n) && true) <|
 (.need ((true && true) && (Nat.beq x.Ah.threads.n x.Ah.threads.n)) <|
 (.ret (TFa.mk x.Ah.p (Sl.mk x.Ah.threads.nil x.Ah.threads.n (fun i2 => (TTh.mk (cond (Nat.beq i2 ((0 : Nat) + (Int.toNat x.D1.Thread))) y1.fst.At (x.Ah.threads.get i2).At) (cond (Nat.beq i2 ((0 : Nat) + (Int.toNat x.D1.Thread))) y1.fst.Phase (x.Ah.threads.get i2).Phase) (cond (Nat.beq i2 ((0 : Nat) + (Int.toNat x.D1.Thread))) y1.fst.Ring (x.Ah.threads.get i2).Ring) (cond (Nat.beq i2 ((0 : Nat) + (Int.toNat x.D1.Thread))) y1.fst.Status (x.Ah.threads.get i2).Status) (cond (Nat.beq i2 ((0 : Nat) + (Int.toNat x.D1.Thread))) y1.fst.AG (x.Ah.threads.get i2).AG) (fun i3 => (cond (Nat.beq i2 ((0 : Nat) + (Int.toNat x.D1.Thread))) (y1.fst.Ae i3) ((x.Ah.threads.get i2).Ae i3))) (Sl.mk (cond (Nat.beq i2 ((0 : Nat) + (Int.toNat x.D1.Thread))) y1.fst.Seen.nil (x.Ah.threads.get i2).Seen.nil) (cond (Nat.beq i2 ((0 : Nat) + (Int.toNat x.D1.Thread))) y1.fst.Seen.n (x.Ah.threads.get i2).Seen.n) (fun i3 => (cond (Nat.beq i2 ((0 : Nat) + (Int.toNat x.D1.Thread))) (y1.fst.Seen.get i3) ((x.Ah.threads.get i2).Seen.get i3))))))) x.Ah.rings x.Ah.now x.Ah.reads x.Ah.ended)))))))))
theorem sd_fe_20 (x : X_fe_20) : (tt_fe_20 x).AJ :=
 (TT.sN (TT.sN (TT.sN (TT.sC fun _ => (TT.sN (TT.sN (TT.sN TT.sR)))))))
def D_fe_20 : AU X_fe_20 R_fe := .of tt_fe_20
theorem ok_fe_20 : AY J_fe S_fe_20 D_fe_20 :=
 lk mxk lbn sd_fe_20
def tt_fe (x : X_fe) : TT Tryz.prog R_fe :=
 (.call con_f1b (x.fst.Thread, x.snd) fun (y1 : R_f1b) =>
 (.ite (AW x.fst.Kind 1)
 (.call con_f2f (x.fst.Ring, x.snd) fun (y2 : R_f2f) =>
 (.AM S_fe_20 D_fe_20 (X_fe_20.mk x.fst 0 y2)))
 (.ite (AW x.fst.Kind 2)
 (.need (A6 x.fst.Ring x.snd.rings.n) <|
 (.need (((Nat.beq x.snd.rings.n x.snd.rings.n) && true) && (!(x.snd.rings.get ((0 : Nat) + (Int.toNat x.fst.Ring))).nil)) <|
 (.call con_f2n (x.fst.AG, (y1.Value, (x.snd.rings.get ((0 : Nat) + (Int.toNat x.fst.Ring))).x)) fun (y2 : R_f2n) =>
 (.need ((true && true) && ((Nat.beq x.snd.rings.n x.snd.rings.n) && (Nat.blt ((0 : Nat) + (Int.toNat x.fst.Ring)) x.snd.rings.n))) <|
 (.side ((fun v : Nat → V => v = v) (fun i3 => (cond (Nat.beq i3 ((0 : Nat) + (Int.toNat x.fst.Ring))) (V.ptr (Id.loc 27 0) List.nil) (V.Am (x.snd.rings.get i3).nil (V.cons (V.cons (V.int IntKind.u64 (x.snd.rings.get i3).x.AA.tail) (V.cons (V.BA 36 1 (x.snd.rings.get i3).x.AA.AD.nil (x.snd.rings.get i3).x.AA.AD.n (fun i4 => (V.int IntKind.u64 ((x.snd.rings.get i3).x.AA.AD.get i4)))) V.unit)) (V.cons (V.Am (x.snd.rings.get i3).x.s.nil (V.cons (V.BA 175 3 (x.snd.rings.get i3).x.s.x.l.nil (x.snd.rings.get i3).x.s.x.l.n (fun i4 => (V.cons (V.int IntKind.u64 ((x.snd.rings.get i3).x.s.x.l.get i4).AP) (V.cons (V.int IntKind.u64 ((x.snd.rings.get i3).x.s.x.l.get i4).Value) (V.cons (V.int IntKind.i64 ((x.snd.rings.get i3).x.s.x.l.get i4).Left) V.unit))))) (V.cons (V.int IntKind.i64 (x.snd.rings.get i3).x.s.x.AX) V.unit))) (V.cons (V.int IntKind.u64 (x.snd.rings.get i3).x.most) (V.cons (V.bool (x.snd.rings.get i3).x.closed) V.unit)))))))) <|
 (.need ((true && true) && (Nat.beq x.snd.rings.n x.snd.rings.n)) <|
 (.AM S_fe_20 D_fe_20 (X_fe_20.mk x.fst 0 (TFa.mk x.snd.p x.snd.threads (Sl.mk x.snd.rings.nil x.snd.rings.n (fun i3 => (Bx.mk (cond (Nat.beq i3 ((0 : Nat) + (Int.toNat x.fst.Ring))) false (x.snd.rings.get i3).nil) (TRr.mk (TRc.mk (cond (Nat.beq i3 ((0 : Nat) + (Int.toNat x.fst.Ring))) y2.snd.AA.tail (x.snd.rings.get i3).x.AA.tail) (Sl.mk (cond (Nat.beq i3 ((0 : Nat) + (Int.toNat x.fst.Ring))) y2.snd.AA.AD.nil (x.snd.rings.get i3).x.AA.AD.nil) (cond (Nat.beq i3 ((0 : Nat) + (Int.toNat x.fst.Ring))) y2.snd.AA.AD.n (x.snd.rings.get i3).x.AA.AD.n) (fun i4 => (cond (Nat.beq i3 ((0 : Nat) + (Int.toNat x.fst.Ring))) (y2.snd.AA.AD.get i4) ((x.snd.rings.get i3).x.AA.AD.get i4))))) (Bx.mk (cond (Nat.beq i3 ((0 : Nat) + (Int.toNat x.fst.Ring))) y2.snd.s.nil (x.snd.rings.get i3).x.s.nil) (TSs.mk (Sl.mk (cond (Nat.beq i3 ((0 : Nat) + (Int.toNat x.fst.Ring))) y2.snd.s.x.l.nil (x.snd.rings.get i3).x.s.x.l.nil) (cond (Nat.beq i3 ((0 : Nat) + (Int.toNat x.fst.Ring))) y2.snd.s.x.l.n (x.snd.rings.get i3).x.s.x.l.n) (fun i4 => (TSo.mk (cond (Nat.beq i3 ((0 : Nat) + (Int.toNat x.fst.Ring))) (y2.snd.s.x.l.get i4).AP ((x.snd.rings.get i3).x.s.x.l.get i4).AP) (cond (Nat.beq i3 ((0 : Nat) + (Int.toNat x.fst.Ring))) (y2.snd.s.x.l.get i4).Value ((x.snd.rings.get i3).x.s.x.l.get i4).Value) (cond (Nat.beq i3 ((0 : Nat) + (Int.toNat x.fst.Ring))) (y2.snd.s.x.l.get i4).Left ((x.snd.rings.get i3).x.s.x.l.get i4).Left)))) (cond (Nat.beq i3 ((0 : Nat) + (Int.toNat x.fst.Ring))) y2.snd.s.x.AX (x.snd.rings.get i3).x.s.x.AX))) (cond (Nat.beq i3 ((0 : Nat) + (Int.toNat x.fst.Ring))) y2.snd.most (x.snd.rings.get i3).x.most) (cond (Nat.beq i3 ((0 : Nat) + (Int.toNat x.fst.Ring))) y2.snd.closed (x.snd.rings.get i3).x.closed))))) x.snd.now x.snd.reads x.snd.ended)))))))))
 (.ite (AW x.fst.Kind 3)
 (.need (A6 x.fst.Ring x.snd.rings.n) <|
 (.need (((Nat.beq x.snd.rings.n x.snd.rings.n) && true) && (!(x.snd.rings.get ((0 : Nat) + (Int.toNat x.fst.Ring))).nil)) <|
 (.call con_f1c (y1.Reader, (x.snd.rings.get ((0 : Nat) + (Int.toNat x.fst.Ring))).x) fun (y2 : R_f1c) =>
 (.need ((true && true) && ((Nat.beq x.snd.rings.n x.snd.rings.n) && (Nat.blt ((0 : Nat) + (Int.toNat x.fst.Ring)) x.snd.rings.n))) <|
 (.side ((fun v : Nat → V => v = v) (fun i3 => (cond (Nat.beq i3 ((0 : Nat) + (Int.toNat x.fst.Ring))) (V.ptr (Id.loc 42 0) List.nil) (V.Am (x.snd.rings.get i3).nil (V.cons (V.cons (V.int IntKind.u64 (x.snd.rings.get i3).x.AA.tail) (V.cons (V.BA 36 1 (x.snd.rings.get i3).x.AA.AD.nil (x.snd.rings.get i3).x.AA.AD.n (fun i4 => (V.int IntKind.u64 ((x.snd.rings.get i3).x.AA.AD.get i4)))) V.unit)) (V.cons (V.Am (x.snd.rings.get i3).x.s.nil (V.cons (V.BA 175 3 (x.snd.rings.get i3).x.s.x.l.nil (x.snd.rings.get i3).x.s.x.l.n (fun i4 => (V.cons (V.int IntKind.u64 ((x.snd.rings.get i3).x.s.x.l.get i4).AP) (V.cons (V.int IntKind.u64 ((x.snd.rings.get i3).x.s.x.l.get i4).Value) (V.cons (V.int IntKind.i64 ((x.snd.rings.get i3).x.s.x.l.get i4).Left) V.unit))))) (V.cons (V.int IntKind.i64 (x.snd.rings.get i3).x.s.x.AX) V.unit))) (V.cons (V.int IntKind.u64 (x.snd.rings.get i3).x.most) (V.cons (V.bool (x.snd.rings.get i3).x.closed) V.unit)))))))) <|
 (.need ((true && true) && (Nat.beq x.snd.rings.n x.snd.rings.n)) <|
 (.AM S_fe_20 D_fe_20 (X_fe_20.mk x.fst 0 (TFa.mk x.snd.p x.snd.threads (Sl.mk x.snd.rings.nil x.snd.rings.n (fun i3 => (Bx.mk (cond (Nat.beq i3 ((0 : Nat) + (Int.toNat x.fst.Ring))) false (x.snd.rings.get i3).nil) (TRr.mk (TRc.mk (cond (Nat.beq i3 ((0 : Nat) + (Int.toNat x.fst.Ring))) y2.snd.snd.AA.tail (x.snd.rings.get i3).x.AA.tail) (Sl.mk (cond (Nat.beq i3 ((0 : Nat) + (Int.toNat x.fst.Ring))) y2.snd.snd.AA.AD.nil (x.snd.rings.get i3).x.AA.AD.nil) (cond (Nat.beq i3 ((0 : Nat) + (Int.toNat x.fst.Ring))) y2.snd.snd.AA.AD.n (x.snd.rings.get i3).x.AA.AD.n) (fun i4 => (cond (Nat.beq i3 ((0 : Nat) + (Int.toNat x.fst.Ring))) (y2.snd.snd.AA.AD.get i4) ((x.snd.rings.get i3).x.AA.AD.get i4))))) (Bx.mk (cond (Nat.beq i3 ((0 : Nat) + (Int.toNat x.fst.Ring))) y2.snd.snd.s.nil (x.snd.rings.get i3).x.s.nil) (TSs.mk (Sl.mk (cond (Nat.beq i3 ((0 : Nat) + (Int.toNat x.fst.Ring))) y2.snd.snd.s.x.l.nil (x.snd.rings.get i3).x.s.x.l.nil) (cond (Nat.beq i3 ((0 : Nat) + (Int.toNat x.fst.Ring))) y2.snd.snd.s.x.l.n (x.snd.rings.get i3).x.s.x.l.n) (fun i4 => (TSo.mk (cond (Nat.beq i3 ((0 : Nat) + (Int.toNat x.fst.Ring))) (y2.snd.snd.s.x.l.get i4).AP ((x.snd.rings.get i3).x.s.x.l.get i4).AP) (cond (Nat.beq i3 ((0 : Nat) + (Int.toNat x.fst.Ring))) (y2.snd.snd.s.x.l.get i4).Value ((x.snd.rings.get i3).x.s.x.l.get i4).Value) (cond (Nat.beq i3 ((0 : Nat) + (Int.toNat x.fst.Ring))) (y2.snd.snd.s.x.l.get i4).Left ((x.snd.rings.get i3).x.s.x.l.get i4).Left)))) (cond (Nat.beq i3 ((0 : Nat) + (Int.toNat x.fst.Ring))) y2.snd.snd.s.x.AX (x.snd.rings.get i3).x.s.x.AX))) (cond (Nat.beq i3 ((0 : Nat) + (Int.toNat x.fst.Ring))) y2.snd.snd.most (x.snd.rings.get i3).x.most) (cond (Nat.beq i3 ((0 : Nat) + (Int.toNat x.fst.Ring))) y2.snd.snd.closed (x.snd.rings.get i3).x.closed))))) x.snd.now x.snd.reads x.snd.ended)))))))))
 (.ite (AW x.fst.Kind 4)
 (.need (A6 x.fst.Ring x.snd.rings.n) <|
 (.need (((Nat.beq x.snd.rings.n x.snd.rings.n) && true) && (!(x.snd.rings.get ((0 : Nat) + (Int.toNat x.fst.Ring))).nil)) <|
 (.call con_f2o (y1.Reader, (x.fst.AG, (x.snd.rings.get ((0 : Nat) + (Int.toNat x.fst.Ring))).x)) fun (y2 : R_f2o) =>
 (.need ((true && true) && ((Nat.beq x.snd.rings.n x.snd.rings.n) && (Nat.blt ((0 : Nat) + (Int.toNat x.fst.Ring)) x.snd.rings.n))) <|
 (.side ((fun v : Nat → V => v = v) (fun i3 => (cond (Nat.beq i3 ((0 : Nat) + (Int.toNat x.fst.Ring))) (V.ptr (Id.loc 56 0) List.nil) (V.Am (x.snd.rings.get i3).nil (V.cons (V.cons (V.int IntKind.u64 (x.snd.rings.get i3).x.AA.tail) (V.cons (V.BA 36 1 (x.snd.rings.get i3).x.AA.AD.nil (x.snd.rings.get i3).x.AA.AD.n (fun i4 => (V.int IntKind.u64 ((x.snd.rings.get i3).x.AA.AD.get i4)))) V.unit)) (V.cons (V.Am (x.snd.rings.get i3).x.s.nil (V.cons (V.BA 175 3 (x.snd.rings.get i3).x.s.x.l.nil (x.snd.rings.get i3).x.s.x.l.n (fun i4 => (V.cons (V.int IntKind.u64 ((x.snd.rings.get i3).x.s.x.l.get i4).AP) (V.cons (V.int IntKind.u64 ((x.snd.rings.get i3).x.s.x.l.get i4).Value) (V.cons (V.int IntKind.i64 ((x.snd.rings.get i3).x.s.x.l.get i4).Left) V.unit))))) (V.cons (V.int IntKind.i64 (x.snd.rings.get i3).x.s.x.AX) V.unit))) (V.cons (V.int IntKind.u64 (x.snd.rings.get i3).x.most) (V.cons (V.bool (x.snd.rings.get i3).x.closed) V.unit)))))))) <|
 (.need ((true && true) && (Nat.beq x.snd.rings.n x.snd.rings.n)) <|
 (.AM S_fe_20 D_fe_20 (X_fe_20.mk x.fst y2.fst (TFa.mk x.snd.p x.snd.threads (Sl.mk x.snd.rings.nil x.snd.rings.n (fun i3 => (Bx.mk (cond (Nat.beq i3 ((0 : Nat) + (Int.toNat x.fst.Ring))) false (x.snd.rings.get i3).nil) (TRr.mk (TRc.mk (cond (Nat.beq i3 ((0 : Nat) + (Int.toNat x.fst.Ring))) y2.snd.snd.AA.tail (x.snd.rings.get i3).x.AA.tail) (Sl.mk (cond (Nat.beq i3 ((0 : Nat) + (Int.toNat x.fst.Ring))) y2.snd.snd.AA.AD.nil (x.snd.rings.get i3).x.AA.AD.nil) (cond (Nat.beq i3 ((0 : Nat) + (Int.toNat x.fst.Ring))) y2.snd.snd.AA.AD.n (x.snd.rings.get i3).x.AA.AD.n) (fun i4 => (cond (Nat.beq i3 ((0 : Nat) + (Int.toNat x.fst.Ring))) (y2.snd.snd.AA.AD.get i4) ((x.snd.rings.get i3).x.AA.AD.get i4))))) (Bx.mk (cond (Nat.beq i3 ((0 : Nat) + (Int.toNat x.fst.Ring))) y2.snd.snd.s.nil (x.snd.rings.get i3).x.s.nil) (TSs.mk (Sl.mk (cond (Nat.beq i3 ((0 : Nat) + (Int.toNat x.fst.Ring))) y2.snd.snd.s.x.l.nil (x.snd.rings.get i3).x.s.x.l.nil) (cond (Nat.beq i3 ((0 : Nat) + (Int.toNat x.fst.Ring))) y2.snd.snd.s.x.l.n (x.snd.rings.get i3).x.s.x.l.n) (fun i4 => (TSo.mk (cond (Nat.beq i3 ((0 : Nat) + (Int.toNat x.fst.Ring))) (y2.snd.snd.s.x.l.get i4).AP ((x.snd.rings.get i3).x.s.x.l.get i4).AP) (cond (Nat.beq i3 ((0 : Nat) + (Int.toNat x.fst.Ring))) (y2.snd.snd.s.x.l.get i4).Value ((x.snd.rings.get i3).x.s.x.l.get i4).Value) (cond (Nat.beq i3 ((0 : Nat) + (Int.toNat x.fst.Ring))) (y2.snd.snd.s.x.l.get i4).Left ((x.snd.rings.get i3).x.s.x.l.get i4).Left)))) (cond (Nat.beq i3 ((0 : Nat) + (Int.toNat x.fst.Ring))) y2.snd.snd.s.x.AX (x.snd.rings.get i3).x.s.x.AX))) (cond (Nat.beq i3 ((0 : Nat) + (Int.toNat x.fst.Ring))) y2.snd.snd.most (x.snd.rings.get i3).x.most) (cond (Nat.beq i3 ((0 : Nat) + (Int.toNat x.fst.Ring))) y2.snd.snd.closed (x.snd.rings.get i3).x.closed))))) x.snd.now x.snd.reads x.snd.ended)))))))))
 (.ite (AW x.fst.Kind 13)
 (.need (A6 x.fst.Ring x.snd.rings.n) <|
 (.need (((Nat.beq x.snd.rings.n x.snd.rings.n) && true) && (!(x.snd.rings.get ((0 : Nat) + (Int.toNat x.fst.Ring))).nil)) <|
 (.call con_f32 (x.snd.rings.get ((0 : Nat) + (Int.toNat x.fst.Ring))).x fun (y2 : R_f32) =>
 (.need ((true && true) && ((Nat.beq x.snd.rings.n x.snd.rings.n) && (Nat.blt ((0 : Nat) + (Int.toNat x.fst.Ring)) x.snd.rings.n))) <|
 (.side ((fun v : Nat → V => v = v) (fun i3 => (cond (Nat.beq i3 ((0 : Nat) + (Int.toNat x.fst.Ring))) (V.ptr (Id.loc 73 0) List.nil) (V.Am (x.snd.rings.get i3).nil (V.cons (V.cons (V.int IntKind.u64 (x.snd.rings.get i3).x.AA.tail) (V.cons (V.BA 36 1 (x.snd.rings.get i3).x.AA.AD.nil (x.snd.rings.get i3).x.AA.AD.n (fun i4 => (V.int IntKind.u64 ((x.snd.rings.get i3).x.AA.AD.get i4)))) V.unit)) (V.cons (V.Am (x.snd.rings.get i3).x.s.nil (V.cons (V.BA 175 3 (x.snd.rings.get i3).x.s.x.l.nil (x.snd.rings.get i3).x.s.x.l.n (fun i4 => (V.cons (V.int IntKind.u64 ((x.snd.rings.get i3).x.s.x.l.get i4).AP) (V.cons (V.int IntKind.u64 ((x.snd.rings.get i3).x.s.x.l.get i4).Value) (V.cons (V.int IntKind.i64 ((x.snd.rings.get i3).x.s.x.l.get i4).Left) V.unit))))) (V.cons (V.int IntKind.i64 (x.snd.rings.get i3).x.s.x.AX) V.unit))) (V.cons (V.int IntKind.u64 (x.snd.rings.get i3).x.most) (V.cons (V.bool (x.snd.rings.get i3).x.closed) V.unit)))))))) <|
 (.need ((true && true) && (Nat.beq x.snd.rings.n x.snd.rings.n)) <|
 (.AM S_fe_20 D_fe_20 (X_fe_20.mk x.fst 0 (TFa.mk x.snd.p x.snd.threads (Sl.mk x.snd.rings.nil x.snd.rings.n (fun i3 => (Bx.mk (cond (Nat.beq i3 ((0 : Nat) + (Int.toNat x.fst.Ring))) false (x.snd.rings.get i3).nil) (TRr.mk (TRc.mk (cond (Nat.beq i3 ((0 : Nat) + (Int.toNat x.fst.Ring))) y2.snd.AA.tail (x.snd.rings.get i3).x.AA.tail) (Sl.mk (cond (Nat.beq i3 ((0 : Nat) + (Int.toNat x.fst.Ring))) y2.snd.AA.AD.nil (x.snd.rings.get i3).x.AA.AD.nil) (cond (Nat.beq i3 ((0 : Nat) + (Int.toNat x.fst.Ring))) y2.snd.AA.AD.n (x.snd.rings.get i3).x.AA.AD.n) (fun i4 => (cond (Nat.beq i3 ((0 : Nat) + (Int.toNat x.fst.Ring))) (y2.snd.AA.AD.get i4) ((x.snd.rings.get i3).x.AA.AD.get i4))))) (Bx.mk (cond (Nat.beq i3 ((0 : Nat) + (Int.toNat x.fst.Ring))) y2.snd.s.nil (x.snd.rings.get i3).x.s.nil) (TSs.mk (Sl.mk (cond (Nat.beq i3 ((0 : Nat) + (Int.toNat x.fst.Ring))) y2.snd.s.x.l.nil (x.snd.rings.get i3).x.s.x.l.nil) (cond (Nat.beq i3 ((0 : Nat) + (Int.toNat x.fst.Ring))) y2.snd.s.x.l.n (x.snd.rings.get i3).x.s.x.l.n) (fun i4 => (TSo.mk (cond (Nat.beq i3 ((0 : Nat) + (Int.toNat x.fst.Ring))) (y2.snd.s.x.l.get i4).AP ((x.snd.rings.get i3).x.s.x.l.get i4).AP) (cond (Nat.beq i3 ((0 : Nat) + (Int.toNat x.fst.Ring))) (y2.snd.s.x.l.get i4).Value ((x.snd.rings.get i3).x.s.x.l.get i4).Value) (cond (Nat.beq i3 ((0 : Nat) + (Int.toNat x.fst.Ring))) (y2.snd.s.x.l.get i4).Left ((x.snd.rings.get i3).x.s.x.l.get i4).Left)))) (cond (Nat.beq i3 ((0 : Nat) + (Int.toNat x.fst.Ring))) y2.snd.s.x.AX (x.snd.rings.get i3).x.s.x.AX))) (cond (Nat.beq i3 ((0 : Nat) + (Int.toNat x.fst.Ring))) y2.snd.most (x.snd.rings.get i3).x.most) (cond (Nat.beq i3 ((0 : Nat) + (Int.toNat x.fst.Ring))) y2.snd.closed (x.snd.rings.get i3).x.closed))))) x.snd.now x.snd.reads x.snd.ended)))))))))
 (.ite (AW x.fst.Kind 8)
 (.AM S_fe_20 D_fe_20 (X_fe_20.mk x.fst 0 (TFa.mk x.snd.p x.snd.threads x.snd.rings (imax x.snd.now x.fst.Value) x.snd.reads x.snd.ended)))
 (.ite (AW x.fst.Kind 10)
 (.AM S_fe_20 D_fe_20 (X_fe_20.mk x.fst 0 (TFa.mk x.snd.p x.snd.threads x.snd.rings x.snd.now (IntKind.u64.wrap (x.snd.reads + 1)) x.snd.ended)))
 (.ite (AW x.fst.Kind 11)
 (.AM S_fe_20 D_fe_20 (X_fe_20.mk x.fst 0 (TFa.mk x.snd.p x.snd.threads x.snd.rings x.snd.now x.snd.reads true)))
 (.AM S_fe_20 D_fe_20 (X_fe_20.mk x.fst 0 x.snd)))))))))))
theorem sd_fe (x : X_fe) : (tt_fe x).AJ :=
 (TT.sC fun _ => (TT.sI (TT.sC fun _ => TT.sJ) (TT.sI (TT.sN (TT.sN (TT.sC fun _ => (TT.sN (TT.sS rfl (TT.sN TT.sJ)))))) (TT.sI (TT.sN (TT.sN (TT.sC fun _ => (TT.sN (TT.sS rfl (TT.sN TT.sJ)))))) (TT.sI (TT.sN (TT.sN (TT.sC fun _ => (TT.sN (TT.sS rfl (TT.sN TT.sJ)))))) (TT.sI (TT.sN (TT.sN (TT.sC fun _ => (TT.sN (TT.sS rfl (TT.sN TT.sJ)))))) (TT.sI TT.sJ (TT.sI TT.sJ (TT.sI TT.sJ TT.sJ)))))))))
def D_fe : AU X_fe R_fe := .of tt_fe
def con_fe : BE Tryz.prog :=
 B2 64 J_fe S_fe D_fe 2 1 [.any, .any] (lk mxk (lbc ok_fe_20 rfl lbn) sd_fe)
abbrev X_f2k : Type := TEv × TFa
abbrev R_f2k : Type := Int × TFa
def J_f2k : BM Tryz.prog :=
 BS Tryz.prog Tryz.f33 19 [(3, 3)] [] [] [] [.any] [sh_TFa] [con_fc, con_fe, con_f16] R_f2k [] fun y => [(V.int .i64) y.1, e_TFa y.2]
def S_f2k : AO :=
 Aj Tryz.f33 2 1 X_f2k (fun x => [(V.ptr (.par 0) []), e_TEv x.1, e_TFa x.2]) fun l => (d_TEv (at_ l 1), d_TFa (at_ l 2))
def tt_f2k (x : X_f2k) : TT Tryz.prog R_f2k :=
 (.call con_f16 (x.fst, x.snd) fun (y1 : R_f16) =>
 (.ite (!(AW y1 0))
 (.ret (y1, x.snd))
 (.call con_fc (x.fst, x.snd) fun (y2 : R_fc) =>
 (.ite (!y2)
 (.ret (11, x.snd))
 (.call con_fe (x.fst, x.snd) fun (y3 : R_fe) =>
 (.ret (0, y3)))))))
theorem sd_f2k (x : X_f2k) : (tt_f2k x).AJ :=
 (TT.sC fun _ => (TT.sI TT.sR (TT.sC fun _ => (TT.sI TT.sR (TT.sC fun _ => TT.sR)))))
def D_f2k : AU X_f2k R_f2k := .of tt_f2k
def con_f2k : BE Tryz.prog :=
 B2 33 J_f2k S_f2k D_f2k 2 1 [.any, .any] (lk mxk lbn sd_f2k)
abbrev X_f3p : Type := (Sl Int) × AZ × TFa
abbrev R_f3p : Type := TEv × Bool × TFa
def J_f3p : BM Tryz.prog :=
 BS Tryz.prog Tryz.f18 23 [(5, 3), (10, 1), (12, 1)] [] [] [] [.any, .any] [sh_TFa] [con_f2k, con_f2q] R_f3p [] fun y => [V.Cb (V.cons (e_TEv y.1) (V.cons (V.bool y.2.1) (V.unit))), e_TFa y.2.2]
def S_f3p : AO :=
 Aj Tryz.f18 3 1 X_f3p (fun x => [(V.ptr (.par 0) []), BG x.1, Bg x.2.1, e_TFa x.2.2]) fun l => (Bc (at_ l 1), Bo (at_ l 2), d_TFa (at_ l 3))
def tt_f3p (x : X_f3p) : TT Tryz.prog R_f3p :=
 (.call con_f2q (x.fst, (x.snd.fst, x.snd.snd)) fun (y1 : R_f2q) =>
 (.ite y1.snd
 (.call con_f2k (y1.fst, x.snd.snd) fun (y2 : R_f2k) =>
 (.ret (y1.fst, (y1.snd, y2.snd))))
 (.ret (y1.fst, (y1.snd, x.snd.snd)))))
theorem sd_f3p (x : X_f3p) : (tt_f3p x).AJ :=
 (TT.sC fun _ => (TT.sI (TT.sC fun _ => TT.sR) TT.sR))
def D_f3p : AU X_f3p R_f3p := .of tt_f3p
def con_f3p : BE Tryz.prog :=
 B2 18 J_f3p S_f3p D_f3p 3 1 [.any, BP, .any] (lk mxk lbn sd_f3p)
abbrev X_f1j : Type := Int × TFa
abbrev R_f1j : Type := Bool
abbrev RR_f1j : Type := Bool × TFa
abbrev p_f1j (y : RR_f1j) : TFa := y.2
abbrev w_f1j (x : X_f1j) : TFa := x.2
def J_f1j : BM Tryz.prog :=
 BS Tryz.prog Tryz.f54 19 [] [] [] [.back (.loc 12 0)] [.any] [sh_TFa] [con_f1a] RR_f1j [] fun y => [V.bool y.1, e_TFa y.2]
def S_f1j : AO :=
 Aj Tryz.f54 2 1 X_f1j (fun x => [(V.ptr (.par 0) []), (V.int .i64) x.1, e_TFa x.2]) fun l => (dI (at_ l 1), d_TFa (at_ l 2))
def tt_f1j (x : X_f1j) : TT Tryz.prog RR_f1j :=
 (.call con_f1a (x.fst, x.snd) fun (y1 : R_f1a) =>
 (.ite y1
 (.need (A6 x.fst x.snd.threads.n) <|
 (.need ((Nat.beq x.snd.threads.n x.snd.threads.n) && true) <|
 (.need ((true && true) && (Nat.beq x.snd.threads.n x.snd.threads.n)) <|
 (.ret ((AW (x.snd.threads.get ((0 : Nat) + (Int.toNat x.fst))).Status 0), x.snd)))))
 (.ret (false, x.snd))))
theorem sd_f1j (x : X_f1j) : (tt_f1j x).AJ :=
 (TT.sC fun _ => (TT.sI (TT.sN (TT.sN (TT.sN TT.sR))) TT.sR))
theorem roT_f1j (x : X_f1j) : TT.Ro p_f1j (w_f1j x) (tt_f1j x) :=
 (TT.rC fun _ => (TT.rI (TT.rN (TT.rN (TT.rN (TT.rR rfl)))) (TT.rR rfl)))
def D_f1j : AU X_f1j R_f1j := .ro (.of tt_f1j) (fun y => (y.1)) (fun y x => (y, x.2)) fun x y h => congrArg (fun o => (y.1, o)) (roT_f1j x y h)
def con_f1j : BE Tryz.prog :=
 Di 54 J_f1j S_f1j (.of tt_f1j) D_f1j (fun y x => (y, x.2)) (fun y => V.bool y) 2 1 [.any, .any] (lk mxk lbn sd_f1j) (fun x => ⟨(nu_e_TFa : ∀ y, (e_TFa y).Cl) (x.2), trivial⟩)
abbrev Hi : Type := (Sl AZ)
def BX : Hi → V := (MX none 4 Bg)
def B8 : V → Hi := (L9 Bo)
def Bu : Sh := (.sl none 4 (Bg (Bo .undef)))
abbrev Dsl_TEv : Type := (Sl TEv)
def esl_TEv : Dsl_TEv → V := (MX none 5 e_TEv)
def dsl_TEv : V → Dsl_TEv := (L9 d_TEv)
def hsl_TEv : Sh := (.sl none 5 (e_TEv (d_TEv .undef)))
structure Ap where
 Ay : (Sl TEv)
 State : TSt
 Idle : Int
 Bd : Int
def CW (v : V) : Ap :=
 ⟨dsl_TEv (fd v 0), d_TSt (fd v 1), dI (fd v 2), dI (fd v 3)⟩
def Cx (x : Ap) : V :=
 V.cons (esl_TEv x.Ay) (V.cons (e_TSt x.State) (V.cons ((V.int .i64) x.Idle) (V.cons ((V.int .i64) x.Bd) (V.unit))))
theorem P1 (x : Ap) : (Cx x).Cl := ⟨trivial, (nu_e_TSt : ∀ y, (e_TSt y).Cl) x.State, trivial, trivial, trivial⟩
def DB : Sh := (.cons hsl_TEv (.cons sh_TSt .any))
abbrev DslA_TEv : Type := (Sl TEv)
def eslA_TEv : DslA_TEv → V := (MX (some 43) 5 e_TEv)
def dslA_TEv : V → DslA_TEv := (L9 d_TEv)
def hslA_TEv : Sh := (.sl (some 43) 5 (e_TEv (d_TEv .undef)))
def De (x : Ap) : V :=
 V.cons (eslA_TEv x.Ay) (V.cons (e_TSt x.State) (V.cons ((V.int .i64) x.Idle) (V.cons ((V.int .i64) x.Bd) (V.unit))))
theorem On (x : Ap) : (De x).Cl := ⟨trivial, (nu_e_TSt : ∀ y, (e_TSt y).Cl) x.State, trivial, trivial, trivial⟩
def ER : Sh := (.cons hslA_TEv (.cons sh_TSt .any))
abbrev X_fd : Type := TPg × (Sl Int) × (Sl AZ)
abbrev R_fd : Type := Ap × Int
def J_fd : BM Tryz.prog :=
 BS Tryz.prog Tryz.f22 73 [(3, 3), (15, 1), (34, 1), (40, 1), (54, 1), (69, 1)] [(7, [.open_ 8])] [] [] [DB, .any] [] [con_f1j, con_f1, con_f1g, con_f3p] R_fd [] fun y => [V.Cb (V.cons (Cx y.1) (V.cons ((V.int .i64) y.2) (V.unit)))]
def S_fd : AO :=
 Aj Tryz.f22 3 0 X_fd (fun x => [e_TPg x.1, BG x.2.1, BX x.2.2]) fun l => (d_TPg (at_ l 0), Bc (at_ l 1), B8 (at_ l 2))
structure X_fd_6 where
 Bl : (Sl Int)
 A9 : (Sl AZ)
 f_8 : (Bx TFa)
 FG : Ap
def S_fd_6 : AO :=
 Ad Tryz.f22 6 [(1, BP), (2, Bu), (6, .any), (8, hbox_TFa)] [] [(.loc 6 0, DB)] X_fd_6 (fun x => [BG x.Bl, BX x.A9, (V.ptr (.loc 6 0) []), ebox_TFa x.f_8, Cx x.FG]) fun l => ⟨Bc (at_ l 0), B8 (at_ l 1), dbox_TFa (at_ l 3), CW (at_ l 4)⟩
structure X_fd_8 where
 Bl : (Sl Int)
 LD : (Sl AZ)
 NT : Int
 Jb : Int
 FG : Ap
 B4 : Ap
 SL : TFa
def S_fd_8 : AO :=
 Ad Tryz.f22 8 [(1, BP), (6, .any), (8, .any), (10, .any), (34, Bu), (35, .any), (36, .any)] [] [(.loc 6 0, DB), (.loc 10 0, ER), (.loc 8 1, sh_TFa)] X_fd_8 (fun x => [BG x.Bl, (V.ptr (.loc 6 0) []), (V.ptr (.loc 8 1) []), (V.ptr (.loc 10 0) []), BX x.LD, (V.int .i64) x.NT, (V.int .i64) x.Jb, Cx x.FG, De x.B4, e_TFa x.SL]) fun l => ⟨Bc (at_ l 0), B8 (at_ l 4), dI (at_ l 5), dI (at_ l 6), CW (at_ l 7), CW (at_ l 8), d_TFa (at_ l 9)⟩
structure X_fd_16 where
 Bl : (Sl Int)
 LD : (Sl AZ)
 NT : Int
 Jb : Int
 FG : Ap
 B4 : Ap
 SL : TFa
def S_fd_16 : AO :=
 Ad Tryz.f22 16 [(1, BP), (6, .any), (8, .any), (10, .any), (34, Bu), (35, .any), (36, .any)] [] [(.loc 6 0, DB), (.loc 10 0, ER), (.loc 8 1, sh_TFa)] X_fd_16 (fun x => [BG x.Bl, (V.ptr (.loc 6 0) []), (V.ptr (.loc 8 1) []), (V.ptr (.loc 10 0) []), BX x.LD, (V.int .i64) x.NT, (V.int .i64) x.Jb, Cx x.FG, De x.B4, e_TFa x.SL]) fun l => ⟨Bc (at_ l 0), B8 (at_ l 4), dI (at_ l 5), dI (at_ l 6), CW (at_ l 7), CW (at_ l 8), d_TFa (at_ l 9)⟩
structure X_fd_17 where
 FG : Ap
 B4 : Ap
 SL : TFa
def S_fd_17 : AO :=
 Ad Tryz.f22 17 (an [6, 8, 10]) [] [(.loc 6 0, DB), (.loc 10 0, ER), (.loc 8 1, sh_TFa)] X_fd_17 (fun x => [(V.ptr (.loc 6 0) []), (V.ptr (.loc 8 1) []), (V.ptr (.loc 10 0) []), Cx x.FG, De x.B4, e_TFa x.SL]) fun l => ⟨CW (at_ l 3), CW (at_ l 4), d_TFa (at_ l 5)⟩
def tt_fd_17 (x : X_fd_17) : TT Tryz.prog R_fd :=
 (.call con_f1 x.SL fun (y1 : R_f1) =>
 (.ret ((Ap.mk x.B4.Ay y1 x.B4.Idle x.B4.Bd), 0)))
theorem sd_fd_17 (x : X_fd_17) : (tt_fd_17 x).AJ :=
 (TT.sC fun _ => TT.sR)
def D_fd_17 : AU X_fd_17 R_fd := .of tt_fd_17
theorem ok_fd_17 : AY J_fd S_fd_17 D_fd_17 :=
 lk mxk lbn sd_fd_17
def tt_fd_16 (D_fd_8 : AU X_fd_8 R_fd) (x : X_fd_16) : TT Tryz.prog R_fd :=
 (.AM S_fd_8 D_fd_8 (X_fd_8.mk x.Bl x.LD x.NT (IntKind.i64.wrap (x.Jb + 1)) x.FG x.B4 x.SL))
theorem sd_fd_16 (D_fd_8 : AU X_fd_8 R_fd) (x : X_fd_16) : (tt_fd_16 D_fd_8 x).AJ :=
 TT.sJ
def D_fd_16 (D_fd_8 : AU X_fd_8 R_fd) : AU X_fd_16 R_fd := .of (tt_fd_16 D_fd_8)
theorem ok_fd_16 (D_fd_8 : AU X_fd_8 R_fd) (h_8 : AY J_fd S_fd_8 D_fd_8) : AY J_fd S_fd_16 (D_fd_16 D_fd_8) :=
 lk mxk (lbc h_8 rfl (lbc ok_fd_17 rfl lbn)) (sd_fd_16 D_fd_8)
def tt_fd_8 (D_fd_8 : AU X_fd_8 R_fd) (x : X_fd_8) : TT Tryz.prog R_fd :=
 (.ite (Bq x.Jb x.NT)
 (.need (A6 x.Jb x.LD.n) <|
 (.call con_f3p (x.Bl, ((x.LD.get (Int.toNat x.Jb)), x.SL)) fun (y2 : R_f3p) =>
 (.ite y2.snd.fst
 (.need (true && (room (x.B4.Ay.n + 1) 40)) <|
 (.AM S_fd_16 (D_fd_16 D_fd_8) (X_fd_16.mk x.Bl x.LD x.NT x.Jb x.FG (Ap.mk (Sl.mk (cond (Nat.beq 1 0) x.B4.Ay.nil false) (x.B4.Ay.n + 1) (fun i3 => (TEv.mk (cond (Nat.blt i3 x.B4.Ay.n) (x.B4.Ay.get i3).Thread y2.fst.Thread) (cond (Nat.blt i3 x.B4.Ay.n) (x.B4.Ay.get i3).Kind y2.fst.Kind) (cond (Nat.blt i3 x.B4.Ay.n) (x.B4.Ay.get i3).Ring y2.fst.Ring) (cond (Nat.blt i3 x.B4.Ay.n) (x.B4.Ay.get i3).AG y2.fst.AG) (cond (Nat.blt i3 x.B4.Ay.n) (x.B4.Ay.get i3).Value y2.fst.Value)))) x.B4.State x.B4.Idle x.B4.Bd) y2.snd.snd)))
 (.call con_f1j ((x.LD.get (Int.toNat x.Jb)).Bj, y2.snd.snd) fun (y3 : R_f1j) =>
 (.ite y3
 (.AM S_fd_16 (D_fd_16 D_fd_8) (X_fd_16.mk x.Bl x.LD x.NT x.Jb x.FG (Ap.mk x.B4.Ay x.B4.State x.B4.Idle (IntKind.i64.wrap (x.B4.Bd + 1))) y2.snd.snd))
 (.AM S_fd_16 (D_fd_16 D_fd_8) (X_fd_16.mk x.Bl x.LD x.NT x.Jb x.FG (Ap.mk x.B4.Ay x.B4.State (IntKind.i64.wrap (x.B4.Idle + 1)) x.B4.Bd) y2.snd.snd)))))))
 (.AM S_fd_17 D_fd_17 (X_fd_17.mk x.FG x.B4 x.SL)))
theorem sd_fd_8 (D_fd_8 : AU X_fd_8 R_fd) (x : X_fd_8) : (tt_fd_8 D_fd_8 x).AJ :=
 (TT.sI (TT.sN (TT.sC fun _ => (TT.sI (TT.sN TT.sJ) (TT.sC fun _ => (TT.sI TT.sJ TT.sJ))))) TT.sJ)
def D_fd_8 : AU X_fd_8 R_fd := AU.loop tt_fd_8
theorem ok_fd_8 : AY J_fd S_fd_8 D_fd_8 :=
 A8 fun D_fd_8 h_8 => lk mxk (lbc h_8 rfl (lbc ok_fd_17 rfl (lbc (ok_fd_16 D_fd_8 h_8) rfl lbn))) (sd_fd_8 D_fd_8)
def tt_fd_6 (x : X_fd_6) : TT Tryz.prog R_fd :=
 (.need (!x.f_8.nil) <|
 (.AM S_fd_8 D_fd_8 (X_fd_8.mk x.Bl x.A9 ((x.A9.n : Nat) : Int) 0 x.FG (Ap.mk (Sl.mk true 0 (fun _i1 => (TEv.mk 0 0 0 0 0))) (TSt.mk (Sl.mk true 0 (fun _i1 => (TTh.mk 0 0 0 0 0 (fun _i2 => (0 : Int)) (Sl.mk true 0 (fun _i2 => (0 : Int)))))) (Sl.mk true 0 (fun _i1 => (TRs.mk 0 (Sl.mk true 0 (fun _i2 => (0 : Int))) false (Sl.mk true 0 (fun _i2 => (TSo.mk 0 0 0)))))) 0 0 false) 0 0) x.f_8.x)))
theorem sd_fd_6 (x : X_fd_6) : (tt_fd_6 x).AJ :=
 (TT.sN TT.sJ)
def D_fd_6 : AU X_fd_6 R_fd := .of tt_fd_6
theorem ok_fd_6 : AY J_fd S_fd_6 D_fd_6 :=
 lk mxk (lbc ok_fd_17 rfl (lbc ok_fd_8 rfl lbn)) sd_fd_6
def tt_fd (x : X_fd) : TT Tryz.prog R_fd :=
 (.call con_f1g x.fst fun (y1 : R_f1g) =>
 (.ite (!(AW y1.snd 0))
 (.ret ((Ap.mk (Sl.mk true 0 (fun _i2 => (TEv.mk 0 0 0 0 0))) (TSt.mk (Sl.mk true 0 (fun _i2 => (TTh.mk 0 0 0 0 0 (fun _i3 => (0 : Int)) (Sl.mk true 0 (fun _i3 => (0 : Int)))))) (Sl.mk true 0 (fun _i2 => (TRs.mk 0 (Sl.mk true 0 (fun _i3 => (0 : Int))) false (Sl.mk true 0 (fun _i3 => (TSo.mk 0 0 0)))))) 0 0 false) 0 0), 1))
 (.ite (Bq 65536 ((x.snd.snd.n : Nat) : Int))
 (.ret ((Ap.mk (Sl.mk true 0 (fun _i2 => (TEv.mk 0 0 0 0 0))) (TSt.mk (Sl.mk true 0 (fun _i2 => (TTh.mk 0 0 0 0 0 (fun _i3 => (0 : Int)) (Sl.mk true 0 (fun _i3 => (0 : Int)))))) (Sl.mk true 0 (fun _i2 => (TRs.mk 0 (Sl.mk true 0 (fun _i3 => (0 : Int))) false (Sl.mk true 0 (fun _i3 => (TSo.mk 0 0 0)))))) 0 0 false) 0 0), 4))
 (.ite (Bq 65536 ((x.snd.fst.n : Nat) : Int))
 (.ret ((Ap.mk (Sl.mk true 0 (fun _i2 => (TEv.mk 0 0 0 0 0))) (TSt.mk (Sl.mk true 0 (fun _i2 => (TTh.mk 0 0 0 0 0 (fun _i3 => (0 : Int)) (Sl.mk true 0 (fun _i3 => (0 : Int)))))) (Sl.mk true 0 (fun _i2 => (TRs.mk 0 (Sl.mk true 0 (fun _i3 => (0 : Int))) false (Sl.mk true 0 (fun _i3 => (TSo.mk 0 0 0)))))) 0 0 false) 0 0), 4))
 (.AM S_fd_6 D_fd_6 (X_fd_6.mk x.snd.fst x.snd.snd (Bx.mk y1.fst.nil y1.fst.x) (Ap.mk (Sl.mk true 0 (fun _i2 => (TEv.mk 0 0 0 0 0))) (TSt.mk (Sl.mk true 0 (fun _i2 => (TTh.mk 0 0 0 0 0 (fun _i3 => (0 : Int)) (Sl.mk true 0 (fun _i3 => (0 : Int)))))) (Sl.mk true 0 (fun _i2 => (TRs.mk 0 (Sl.mk true 0 (fun _i3 => (0 : Int))) false (Sl.mk true 0 (fun _i3 => (TSo.mk 0 0 0)))))) 0 0 false) 0 0)))))))
theorem sd_fd (x : X_fd) : (tt_fd x).AJ :=
 (TT.sC fun _ => (TT.sI TT.sR (TT.sI TT.sR (TT.sI TT.sR TT.sJ))))
def D_fd : AU X_fd R_fd := .of tt_fd
def con_fd : BE Tryz.prog :=
 B2 22 J_fd S_fd D_fd 3 0 [sh_TPg, BP, Bu] (lk mxk (lbc ok_fd_17 rfl (lbc ok_fd_8 rfl (lbc ok_fd_6 rfl lbn))) sd_fd)
abbrev HI : Type := (Sl AZ)
def EM : HI → V := (MX (some 41) 4 Bg)
def EO : V → HI := (L9 Bo)
def EK : Sh := (.sl (some 41) 4 (Bg (Bo .undef)))
abbrev X_f9 : Type := TPg × (Sl TEv)
abbrev R_f9 : Type := (Sl Int) × (Sl AZ) × Int
def J_f9 : BM Tryz.prog :=
 BS Tryz.prog Tryz.f27 68 [(2, 3), (18, 1), (23, 1), (52, 1), (61, 1), (66, 1), (67, 1)] [(6, [.open_ 7])] [] [.E0 4, .E0 5] [BP, Bu, .any] [] [con_f3c, con_f2k, con_f1k, con_f1g] R_f9 [] fun y => [V.Cb (V.cons (BG y.1) (V.cons (BX y.2.1) (V.cons ((V.int .i64) y.2.2) (V.unit))))]
def S_f9 : AO :=
 Aj Tryz.f27 2 0 X_f9 (fun x => [e_TPg x.1, esl_TEv x.2]) fun l => (d_TPg (at_ l 0), dsl_TEv (at_ l 1))
structure X_f9_7 where
 DJ : (Sl Int)
 BV : (Sl AZ)
 DS : (Sl TEv)
 KS : Int
 ET : Int
 SM : TFa
def S_f9_7 : AO :=
 Ad Tryz.f27 7 [(4, Gb), (5, EK), (7, .any), (23, hsl_TEv), (24, .any), (25, .any)] [] [(.loc 7 1, sh_TFa)] X_f9_7 (fun x => [Gd x.DJ, EM x.BV, (V.ptr (.loc 7 1) []), esl_TEv x.DS, (V.int .i64) x.KS, (V.int .i64) x.ET, e_TFa x.SM]) fun l => ⟨JA (at_ l 0), EO (at_ l 1), dsl_TEv (at_ l 3), dI (at_ l 4), dI (at_ l 5), d_TFa (at_ l 6)⟩
structure X_f9_17 where
 DJ : (Sl Int)
 BV : (Sl AZ)
 DS : (Sl TEv)
 KS : Int
 ET : Int
 B4 : TEv
 S8 : AZ
 SM : TFa
def S_f9_17 : AO :=
 Ad Tryz.f27 17 [(4, Gb), (5, EK), (7, .any), (10, .any), (11, .any), (23, hsl_TEv), (24, .any), (25, .any)] [] [(.loc 10 0, .any), (.loc 11 0, .any), (.loc 7 1, sh_TFa)] X_f9_17 (fun x => [Gd x.DJ, EM x.BV, (V.ptr (.loc 7 1) []), (V.ptr (.loc 10 0) []), (V.ptr (.loc 11 0) []), esl_TEv x.DS, (V.int .i64) x.KS, (V.int .i64) x.ET, e_TEv x.B4, Bg x.S8, e_TFa x.SM]) fun l => ⟨JA (at_ l 0), EO (at_ l 1), dsl_TEv (at_ l 5), dI (at_ l 6), dI (at_ l 7), d_TEv (at_ l 8), Bo (at_ l 9), d_TFa (at_ l 10)⟩
structure X_f9_20 where
 DJ : (Sl Int)
 BV : (Sl AZ)
 DS : (Sl TEv)
 KS : Int
 ET : Int
 SM : TFa
def S_f9_20 : AO :=
 Ad Tryz.f27 20 [(4, Gb), (5, EK), (7, .any), (23, hsl_TEv), (24, .any), (25, .any)] [] [(.loc 7 1, sh_TFa)] X_f9_20 (fun x => [Gd x.DJ, EM x.BV, (V.ptr (.loc 7 1) []), esl_TEv x.DS, (V.int .i64) x.KS, (V.int .i64) x.ET, e_TFa x.SM]) fun l => ⟨JA (at_ l 0), EO (at_ l 1), dsl_TEv (at_ l 3), dI (at_ l 4), dI (at_ l 5), d_TFa (at_ l 6)⟩
structure X_f9_21 where
 DJ : (Sl Int)
 BV : (Sl AZ)
def S_f9_21 : AO :=
 Ad Tryz.f27 21 [(4, Gb), (5, EK)] [] [] X_f9_21 (fun x => [Gd x.DJ, EM x.BV]) fun l => ⟨JA (at_ l 0), EO (at_ l 1)⟩
def tt_f9_21 (x : X_f9_21) : TT Tryz.prog R_f9 :=
 (.ret (x.DJ, (x.BV, 0)))
theorem sd_f9_21 (x : X_f9_21) : (tt_f9_21 x).AJ :=
 TT.sR
def D_f9_21 : AU X_f9_21 R_f9 := .of tt_f9_21
theorem ok_f9_21 : AY J_f9 S_f9_21 D_f9_21 :=
 lk mxk lbn sd_f9_21
def tt_f9_20 (D_f9_7 : AU X_f9_7 R_f9) (x : X_f9_20) : TT Tryz.prog R_f9 :=
 (.AM S_f9_7 D_f9_7 (X_f9_7.mk x.DJ x.BV x.DS x.KS (IntKind.i64.wrap (x.ET + 1)) x.SM))
theorem sd_f9_20 (D_f9_7 : AU X_f9_7 R_f9) (x : X_f9_20) : (tt_f9_20 D_f9_7 x).AJ :=
 TT.sJ
def D_f9_20 (D_f9_7 : AU X_f9_7 R_f9) : AU X_f9_20 R_f9 := .of (tt_f9_20 D_f9_7)
theorem ok_f9_20 (D_f9_7 : AU X_f9_7 R_f9) (h_7 : AY J_f9 S_f9_7 D_f9_7) : AY J_f9 S_f9_20 (D_f9_20 D_f9_7) :=
 lk mxk (lbc h_7 rfl (lbc ok_f9_21 rfl lbn)) (sd_f9_20 D_f9_7)
def tt_f9_17 (D_f9_7 : AU X_f9_7 R_f9) (x : X_f9_17) : TT Tryz.prog R_f9 :=
 (.call con_f2k (x.B4, x.SM) fun (y2 : R_f2k) =>
 (.ite (!(AW y2.fst 0))
 (.ret ((Sl.mk true 0 (fun _i3 => (0 : Int))), ((Sl.mk true 0 (fun _i3 => (AZ.mk 0 0 0 false))), 11)))
 (.need (true && (room (x.BV.n + 1) 32)) <|
 (.AM S_f9_20 (D_f9_20 D_f9_7) (X_f9_20.mk x.DJ (Sl.mk (cond (Nat.beq 1 0) x.BV.nil false) (x.BV.n + 1) (fun i3 => (AZ.mk (cond (Nat.blt i3 x.BV.n) (x.BV.get i3).Bj x.S8.Bj) (cond (Nat.blt i3 x.BV.n) (x.BV.get i3).Du x.S8.Du) (cond (Nat.blt i3 x.BV.n) (x.BV.get i3).Gj x.S8.Gj) (cond (Nat.blt i3 x.BV.n) (x.BV.get i3).Hh x.S8.Hh)))) x.DS x.KS x.ET y2.snd)))))
theorem sd_f9_17 (D_f9_7 : AU X_f9_7 R_f9) (x : X_f9_17) : (tt_f9_17 D_f9_7 x).AJ :=
 (TT.sC fun _ => (TT.sI TT.sR (TT.sN TT.sJ)))
def D_f9_17 (D_f9_7 : AU X_f9_7 R_f9) : AU X_f9_17 R_f9 := .of (tt_f9_17 D_f9_7)
theorem ok_f9_17 (D_f9_7 : AU X_f9_7 R_f9) (h_7 : AY J_f9 S_f9_7 D_f9_7) : AY J_f9 S_f9_17 (D_f9_17 D_f9_7) :=
 lk mxk (lbc h_7 rfl (lbc ok_f9_21 rfl (lbc (ok_f9_20 D_f9_7 h_7) rfl lbn))) (sd_f9_17 D_f9_7)
def tt_f9_7 (D_f9_7 : AU X_f9_7 R_f9) (x : X_f9_7) : TT Tryz.prog R_f9 :=
 (.ite (Bq x.ET x.KS)
 (.need (A6 x.ET x.DS.n) <|
 (.ite (AW (x.DS.get (Int.toNat x.ET)).Kind 8)
 (.call con_f1k x.SM fun (y2 : R_f1k) =>
 (.AM S_f9_17 (D_f9_17 D_f9_7) (X_f9_17.mk x.DJ x.BV x.DS x.KS x.ET (x.DS.get (Int.toNat x.ET)) (AZ.mk (x.DS.get (Int.toNat x.ET)).Thread (IntKind.u64.wrap ((x.DS.get (Int.toNat x.ET)).Value - y2)) 0 (AW (x.DS.get (Int.toNat x.ET)).Kind 7)) x.SM)))
 (.ite (AW (x.DS.get (Int.toNat x.ET)).Kind 9)
 (.AM S_f9_17 (D_f9_17 D_f9_7) (X_f9_17.mk x.DJ x.BV x.DS x.KS x.ET (x.DS.get (Int.toNat x.ET)) (AZ.mk (x.DS.get (Int.toNat x.ET)).Thread 0 (x.DS.get (Int.toNat x.ET)).Value (AW (x.DS.get (Int.toNat x.ET)).Kind 7)) x.SM))
 (.ite (AW (x.DS.get (Int.toNat x.ET)).Kind 10)
 (.need (true && (room (x.DJ.n + 1) 8)) <|
 (.AM S_f9_17 (D_f9_17 D_f9_7) (X_f9_17.mk (Sl.mk (cond (Nat.beq 1 0) x.DJ.nil false) (x.DJ.n + 1) (fun i2 => (cond (Nat.blt i2 x.DJ.n) (x.DJ.get i2) (x.DS.get (Int.toNat x.ET)).Value))) x.BV x.DS x.KS x.ET (x.DS.get (Int.toNat x.ET)) (AZ.mk (x.DS.get (Int.toNat x.ET)).Thread 0 0 (AW (x.DS.get (Int.toNat x.ET)).Kind 7)) x.SM)))
 (.AM S_f9_17 (D_f9_17 D_f9_7) (X_f9_17.mk x.DJ x.BV x.DS x.KS x.ET (x.DS.get (Int.toNat x.ET)) (AZ.mk (x.DS.get (Int.toNat x.ET)).Thread 0 0 (AW (x.DS.get (Int.toNat x.ET)).Kind 7)) x.SM))))))
 (.AM S_f9_21 D_f9_21 (X_f9_21.mk x.DJ x.BV)))
theorem sd_f9_7 (D_f9_7 : AU X_f9_7 R_f9) (x : X_f9_7) : (tt_f9_7 D_f9_7 x).AJ :=
 (TT.sI (TT.sN (TT.sI (TT.sC fun _ => TT.sJ) (TT.sI TT.sJ (TT.sI (TT.sN TT.sJ) TT.sJ)))) TT.sJ)
def D_f9_7 : AU X_f9_7 R_f9 := AU.loop tt_f9_7
theorem ok_f9_7 : AY J_f9 S_f9_7 D_f9_7 :=
 A8 fun D_f9_7 h_7 => lk mxk (lbc h_7 rfl (lbc ok_f9_21 rfl (lbc (ok_f9_20 D_f9_7 h_7) rfl (lbc (ok_f9_17 D_f9_7 h_7) rfl lbn)))) (sd_f9_7 D_f9_7)
def tt_f9 (x : X_f9) : TT Tryz.prog R_f9 :=
 (.call con_f3c x.fst fun (y1 : R_f3c) =>
 (.ite (!y1)
 (.ret ((Sl.mk true 0 (fun _i2 => (0 : Int))), ((Sl.mk true 0 (fun _i2 => (AZ.mk 0 0 0 false))), 1)))
 (.ite (Bq 65536 ((x.snd.n : Nat) : Int))
 (.ret ((Sl.mk true 0 (fun _i2 => (0 : Int))), ((Sl.mk true 0 (fun _i2 => (AZ.mk 0 0 0 false))), 4)))
 (.call con_f1g x.fst fun (y2 : R_f1g) =>
 (.need (!y2.fst.nil) <|
 (.AM S_f9_7 D_f9_7 (X_f9_7.mk (Sl.mk true 0 (fun _i3 => (0 : Int))) (Sl.mk true 0 (fun _i3 => (AZ.mk 0 0 0 false))) x.snd ((x.snd.n : Nat) : Int) 0 y2.fst.x)))))))
theorem sd_f9 (x : X_f9) : (tt_f9 x).AJ :=
 (TT.sC fun _ => (TT.sI TT.sR (TT.sI TT.sR (TT.sC fun _ => (TT.sN TT.sJ)))))
def D_f9 : AU X_f9 R_f9 := .of tt_f9
def con_f9 : BE Tryz.prog :=
 B2 27 J_f9 S_f9 D_f9 2 0 [sh_TPg, hsl_TEv] (lk mxk (lbc ok_f9_21 rfl (lbc ok_f9_7 rfl lbn)) sd_f9)
abbrev X_f24 : Type := (Sl TEv) × (Sl TEv)
abbrev R_f24 : Type := Bool
def J_f24 : BM Tryz.prog :=
 BS Tryz.prog Tryz.f26 26 [] [] [] [] [.any] [] [] R_f24 [] fun y => [V.bool y]
def S_f24 : AO :=
 Aj Tryz.f26 2 0 X_f24 (fun x => [esl_TEv x.1, esl_TEv x.2]) fun l => (dsl_TEv (at_ l 0), dsl_TEv (at_ l 1))
structure X_f24_4 where
 L2 : (Sl TEv)
 M1 : (Sl TEv)
 D0 : Int
def S_f24_4 : AO :=
 Ad Tryz.f26 4 [(0, hsl_TEv), (1, hsl_TEv), (5, .any)] [] [] X_f24_4 (fun x => [esl_TEv x.L2, esl_TEv x.M1, (V.int .i64) x.D0]) fun l => ⟨dsl_TEv (at_ l 0), dsl_TEv (at_ l 1), dI (at_ l 2)⟩
def tt_f24_4 (D_f24_4 : AU X_f24_4 R_f24) (x : X_f24_4) : TT Tryz.prog R_f24 :=
 (.ite (Bq x.D0 ((x.L2.n : Nat) : Int))
 (.need (A6 x.D0 x.L2.n) <|
 (.need (A6 x.D0 x.M1.n) <|
 (.ite (!((AW (x.L2.get (Int.toNat x.D0)).Thread (x.M1.get (Int.toNat x.D0)).Thread) && ((AW (x.L2.get (Int.toNat x.D0)).Kind (x.M1.get (Int.toNat x.D0)).Kind) && ((AW (x.L2.get (Int.toNat x.D0)).Ring (x.M1.get (Int.toNat x.D0)).Ring) && ((AW (x.L2.get (Int.toNat x.D0)).AG (x.M1.get (Int.toNat x.D0)).AG) && ((AW (x.L2.get (Int.toNat x.D0)).Value (x.M1.get (Int.toNat x.D0)).Value) && true))))))
 (.ret false)
 (.AM S_f24_4 D_f24_4 (X_f24_4.mk x.L2 x.M1 (IntKind.i64.wrap (x.D0 + 1)))))))
 (.ret true))
theorem sd_f24_4 (D_f24_4 : AU X_f24_4 R_f24) (x : X_f24_4) : (tt_f24_4 D_f24_4 x).AJ :=
 (TT.sI (TT.sN (TT.sN (TT.sI TT.sR TT.sJ))) TT.sR)
def D_f24_4 : AU X_f24_4 R_f24 := AU.loop tt_f24_4
theorem ok_f24_4 : AY J_f24 S_f24_4 D_f24_4 :=
 A8 fun D_f24_4 h_4 => lk mxk (lbc h_4 rfl lbn) (sd_f24_4 D_f24_4)
def tt_f24 (x : X_f24) : TT Tryz.prog R_f24 :=
 (.ite (!(AW ((x.fst.n : Nat) : Int) ((x.snd.n : Nat) : Int)))
 (.ret false)
 (.AM S_f24_4 D_f24_4 (X_f24_4.mk x.fst x.snd 0)))
theorem sd_f24 (x : X_f24) : (tt_f24 x).AJ :=
 (TT.sI TT.sR TT.sJ)
def D_f24 : AU X_f24 R_f24 := .of tt_f24
def con_f24 : BE Tryz.prog :=
 B2 26 J_f24 S_f24 D_f24 2 0 [hsl_TEv, hsl_TEv] (lk mxk (lbc ok_f24_4 rfl lbn) sd_f24)
abbrev X_f2g : Type := Int
abbrev R_f2g : Type := TAk × Int
def J_f2g : BM Tryz.prog :=
 BS Tryz.prog Tryz.f42 19 [(16, 1)] [] [] [] [.any, .any] [] [] R_f2g [] fun y => [V.Cb (V.cons (e_TAk y.1) (V.cons ((V.int .i64) y.2) (V.unit)))]
def S_f2g : AO :=
 Aj Tryz.f42 2 0 X_f2g (fun x => [V.C6, (V.int .i64) x]) fun l => (dI (at_ l 1))
def tt_f2g (_x : X_f2g) : TT Tryz.prog R_f2g :=
 (.ret ((TAk.mk 0 0 0 0 0 0), 15))
theorem sd_f2g (x : X_f2g) : (tt_f2g x).AJ :=
 TT.sR
def D_f2g : AU X_f2g R_f2g := .of tt_f2g
def con_f2g : BE Tryz.prog :=
 B2 42 J_f2g S_f2g D_f2g 2 0 [.any, .any] (lk mxk lbn sd_f2g)
abbrev X_f3d : Type := (Sl Int) × AZ
abbrev R_f3d : Type := TEv × Bool
def J_f3d : BM Tryz.prog :=
 BS Tryz.prog Tryz.f15 34 [(5, 3), (12, 1), (22, 1), (23, 1), (24, 1)] [] [] [] [.any, .any] [] [con_f2g] R_f3d [] fun y => [V.Cb (V.cons (e_TEv y.1) (V.cons (V.bool y.2) (V.unit)))]
def S_f3d : AO :=
 Aj Tryz.f15 3 0 X_f3d (fun x => [V.C6, BG x.1, Bg x.2]) fun l => (Bc (at_ l 1), Bo (at_ l 2))
def tt_f3d (x : X_f3d) : TT Tryz.prog R_f3d :=
 (.call con_f2g x.snd.Bj fun (y1 : R_f2g) =>
 (.need (!(AW y1.snd 0)) <|
 (.ret ((TEv.mk 0 0 0 0 0), false))))
theorem sd_f3d (x : X_f3d) : (tt_f3d x).AJ :=
 (TT.sC fun _ => (TT.sN TT.sR))
def D_f3d : AU X_f3d R_f3d := .of tt_f3d
def con_f3d : BE Tryz.prog :=
 B2 15 J_f3d S_f3d D_f3d 3 0 [.any, BP, .any] (lk mxk lbn sd_f3d)
abbrev X_f3i : Type := Unit
abbrev R_f3i : Type := Bool
def J_f3i : BM Tryz.prog :=
 BS Tryz.prog Tryz.f11 145 [(21, 1), (30, 1), (35, 1), (43, 1), (52, 1), (57, 1), (63, 1), (69, 1), (70, 1), (75, 1), (104, 1), (109, 1)] [(6, [.open_ 11])] [] [] [.any] [] [con_f1g, con_f24, con_f3t, con_f9, con_f2q, con_fd, con_f3p, con_f3d] R_f3i [] fun y => [V.bool y]
def S_f3i : AO :=
 Aj Tryz.f11 0 0 X_f3i (fun _x => []) fun _l => ()
def tt_f3i (_x : X_f3i) : TT Tryz.prog R_f3i :=
 (.call con_f3t PUnit.unit fun (y1 : R_f3t) =>
 (.call con_fd (y1, ((Sl.mk true 0 (fun _i2 => (0 : Int))), (Sl.mk false 3 (fun i2 => (AZ.mk (cond (Nat.beq i2 0) (0 : Int) (cond (Nat.beq i2 1) (0 : Int) (7 : Int))) (cond (Nat.beq i2 0) (0 : Int) (cond (Nat.beq i2 1) (0 : Int) (0 : Int))) (cond (Nat.beq i2 0) (0 : Int) (cond (Nat.beq i2 1) (0 : Int) (0 : Int))) (cond (Nat.beq i2 0) false (cond (Nat.beq i2 1) false false))))))) fun (y2 : R_fd) =>
 (.call con_fd ((TPg.mk (Sl.mk true 0 (fun _i3 => (TRg.mk 0 0 0))) (Sl.mk true 0 (fun _i3 => (Sl.mk true 0 (fun _i4 => (TIn.mk 0 0 0 0 0 0)))))), ((Sl.mk true 0 (fun _i3 => (0 : Int))), (Sl.mk true 0 (fun _i3 => (AZ.mk 0 0 0 false))))) fun (y3 : R_fd) =>
 (.call con_f3t PUnit.unit fun (y4 : R_f3t) =>
 (.call con_f9 (y4, (Sl.mk false 1 (fun _i5 => (TEv.mk 0 14 0 0 0)))) fun (y5 : R_f9) =>
 (.call con_f3t PUnit.unit fun (y6 : R_f3t) =>
 (.call con_f9 (y6, (Sl.mk false 2 (fun i7 => (TEv.mk (cond (Nat.beq i7 0) (0 : Int) (0 : Int)) (cond (Nat.beq i7 0) (14 : Int) (14 : Int)) (cond (Nat.beq i7 0) (0 : Int) (0 : Int)) (cond (Nat.beq i7 0) (0 : Int) (0 : Int)) (cond (Nat.beq i7 0) (0 : Int) (0 : Int)))))) fun (y7 : R_f9) =>
 (.call con_f3t PUnit.unit fun (y8 : R_f3t) =>
 (.call con_f1g y8 fun (y9 : R_f1g) =>
 (.need (!y9.fst.nil) <|
 (.call con_f2q ((Sl.mk true 0 (fun _i10 => (0 : Int))), ((AZ.mk 0 0 0 false), y9.fst.x)) fun (y10 : R_f2q) =>
 (.call con_f3p ((Sl.mk true 0 (fun _i11 => (0 : Int))), ((AZ.mk 0 0 0 false), y9.fst.x)) fun (y11 : R_f3p) =>
 (.call con_f3p ((Sl.mk true 0 (fun _i12 => (0 : Int))), ((AZ.mk 0 0 0 false), y11.snd.snd)) fun (y12 : R_f3p) =>
 (.call con_f3d ((Sl.mk true 0 (fun _i13 => (0 : Int))), (AZ.mk 0 0 0 false)) fun (y13 : R_f3d) =>
 (.ite (AW y2.snd 0)
 (.call con_f24 (y2.fst.Ay, (Sl.mk false 1 (fun _i14 => (TEv.mk 0 14 0 0 0)))) fun (y14 : R_f24) =>
 (.ite y14
 (.ite (AW y2.fst.Idle 2)
 (.ite (AW y2.fst.Bd 0)
 (.ite (AW y3.snd 1)
 (.ite (AW ((y5.fst.n : Nat) : Int) 0)
 (.ite (AW ((y5.snd.fst.n : Nat) : Int) 1)
 (.ite (AW y5.snd.snd 0)
 (.ite (AW y7.snd.snd 11)
 (.ite (AW y10.fst.Kind 14)
 (.ite y10.snd
 (.ite ((AW y11.fst.Thread y10.fst.Thread) && ((AW y11.fst.Kind y10.fst.Kind) && ((AW y11.fst.Ring y10.fst.Ring) && ((AW y11.fst.AG y10.fst.AG) && ((AW y11.fst.Value y10.fst.Value) && true)))))
 (.ite y11.snd.fst
 (.ite (!y12.snd.fst)
 (.ret (!y13.snd))
 (.ret false))
 (.ret false))
 (.ret false))
 (.ret false))
 (.ret false))
 (.ret false))
 (.ret false))
 (.ret false))
 (.ret false))
 (.ret false))
 (.ret false))
 (.ret false))
 (.ret false)))
 (.ret false))))))))))))))))
theorem sd_f3i (x : X_f3i) : (tt_f3i x).AJ :=
 (TT.sC fun _ => (TT.sC fun _ => (TT.sC fun _ => (TT.sC fun _ => (TT.sC fun _ => (TT.sC fun _ => (TT.sC fun _ => (TT.sC fun _ => (TT.sC fun _ => (TT.sN (TT.sC fun _ => (TT.sC fun _ => (TT.sC fun _ => (TT.sC fun _ => (TT.sI (TT.sC fun _ => (TT.sI (TT.sI (TT.sI (TT.sI (TT.sI (TT.sI (TT.sI (TT.sI (TT.sI (TT.sI (TT.sI (TT.sI (TT.sI TT.sR TT.sR) TT.sR) TT.sR) TT.sR) TT.sR) TT.sR) TT.sR) TT.sR) TT.sR) TT.sR) TT.sR) TT.sR) TT.sR)) TT.sR)))))))))))))))
def D_f3i : AU X_f3i R_f3i := .of tt_f3i
def con_f3i : BE Tryz.prog :=
 B2 11 J_f3i S_f3i D_f3i 0 0 [] (lk mxk lbn sd_f3i)
abbrev X_f1r : Type := TPg × Int
abbrev R_f1r : Type := Bool
def J_f1r : BM Tryz.prog :=
 BS Tryz.prog Tryz.f21 43 [(2, 3)] [] [] [] [.any] [] [] R_f1r [] fun y => [V.bool y]
def S_f1r : AO :=
 Aj Tryz.f21 2 0 X_f1r (fun x => [e_TPg x.1, (V.int .i64) x.2]) fun l => (d_TPg (at_ l 0), dI (at_ l 1))
structure X_f1r_3 where
 HZ : Int
 Sx : TPg
def S_f1r_3 : AO :=
 Ad Tryz.f21 3 (an [1, 2]) [] [] X_f1r_3 (fun x => [(V.int .i64) x.HZ, (Ch e_TPg) x.Sx]) fun l => ⟨dI (at_ l 0), (Ci d_TPg) (at_ l 1)⟩
structure X_f1r_5 where
 HZ : Int
 Sx : TPg
 n_5 : Int
 Kj : Int
def S_f1r_5 : AO :=
 Ad Tryz.f21 5 (an [1, 2, 5, 6]) [] [] X_f1r_5 (fun x => [(V.int .i64) x.HZ, (Ch e_TPg) x.Sx, (V.int .i64) x.n_5, (V.int .i64) x.Kj]) fun l => ⟨dI (at_ l 0), (Ci d_TPg) (at_ l 1), dI (at_ l 2), dI (at_ l 3)⟩
def tt_f1r_5 (D_f1r_5 : AU X_f1r_5 R_f1r) (x : X_f1r_5) : TT Tryz.prog R_f1r :=
 (.ite (Bq x.Kj ((x.Sx.AB.n : Nat) : Int))
 (.need (A6 x.Kj x.Sx.AB.n) <|
 (.ite (Bq x.HZ (((x.Sx.AB.get (Int.toNat x.Kj)).n : Nat) : Int))
 (.ret false)
 (.need (A6 x.Kj x.Sx.AB.n) <|
 (.AM S_f1r_5 D_f1r_5 (X_f1r_5.mk x.HZ x.Sx (IntKind.i64.wrap (x.n_5 + (((x.Sx.AB.get (Int.toNat x.Kj)).n : Nat) : Int))) (IntKind.i64.wrap (x.Kj + 1)))))))
 (.ret (Bw x.n_5 x.HZ)))
theorem sd_f1r_5 (D_f1r_5 : AU X_f1r_5 R_f1r) (x : X_f1r_5) : (tt_f1r_5 D_f1r_5 x).AJ :=
 (TT.sI (TT.sN (TT.sI TT.sR (TT.sN TT.sJ))) TT.sR)
def D_f1r_5 : AU X_f1r_5 R_f1r := AU.loop tt_f1r_5
theorem ok_f1r_5 : AY J_f1r S_f1r_5 D_f1r_5 :=
 A8 fun D_f1r_5 h_5 => lk mxk (lbc h_5 rfl lbn) (sd_f1r_5 D_f1r_5)
def tt_f1r_3 (x : X_f1r_3) : TT Tryz.prog R_f1r :=
 (.AM S_f1r_5 D_f1r_5 (X_f1r_5.mk x.HZ x.Sx 0 0))
theorem sd_f1r_3 (x : X_f1r_3) : (tt_f1r_3 x).AJ :=
 TT.sJ
def D_f1r_3 : AU X_f1r_3 R_f1r := .of tt_f1r_3
theorem ok_f1r_3 : AY J_f1r S_f1r_3 D_f1r_3 :=
 lk mxk (lbc ok_f1r_5 rfl lbn) sd_f1r_3
def tt_f1r (x : X_f1r) : TT Tryz.prog R_f1r :=
 (.ite (Bq 10 ((x.fst.AF.n : Nat) : Int))
 (.ret false)
 (.ite (Bq 10 ((x.fst.AB.n : Nat) : Int))
 (.ret false)
 (.AM S_f1r_3 D_f1r_3 (X_f1r_3.mk x.snd x.fst))))
theorem sd_f1r (x : X_f1r) : (tt_f1r x).AJ :=
 (TT.sI TT.sR (TT.sI TT.sR TT.sJ))
def D_f1r : AU X_f1r R_f1r := .of tt_f1r
def con_f1r : BE Tryz.prog :=
 B2 21 J_f1r S_f1r D_f1r 2 0 [sh_TPg, .any] (lk mxk (lbc ok_f1r_5 rfl (lbc ok_f1r_3 rfl lbn)) sd_f1r)
abbrev X_f48 : Type := TRg
abbrev R_f48 : Type := Bool
def J_f48 : BM Tryz.prog :=
 BS Tryz.prog Tryz.f146 36 [(1, 3)] [] [] [] [.any] [] [] R_f48 [] fun y => [V.bool y]
def S_f48 : AO :=
 Aj Tryz.f146 1 0 X_f48 (fun x => [e_TRg x]) fun l => (d_TRg (at_ l 0))
def tt_f48 (x : X_f48) : TT Tryz.prog R_f48 :=
 (.ite (Bw 1 x.DP)
 (.ite (Bw x.DP 64)
 (.ite (AW x.Kind 1)
 (.ite (AW x.AR 1)
 (.ret true)
 (.ite (AW x.Kind 2)
 (.ite (Bw 1 x.AR)
 (.ret (Bw x.AR 8))
 (.ret false))
 (.ret false)))
 (.ite (AW x.Kind 2)
 (.ite (Bw 1 x.AR)
 (.ret (Bw x.AR 8))
 (.ret false))
 (.ret false)))
 (.ret false))
 (.ret false))
theorem sd_f48 (x : X_f48) : (tt_f48 x).AJ :=
 (TT.sI (TT.sI (TT.sI (TT.sI TT.sR (TT.sI (TT.sI TT.sR TT.sR) TT.sR)) (TT.sI (TT.sI TT.sR TT.sR) TT.sR)) TT.sR) TT.sR)
def D_f48 : AU X_f48 R_f48 := .of tt_f48
def con_f48 : BE Tryz.prog :=
 B2 146 J_f48 S_f48 D_f48 1 0 [.any] (lk mxk lbn sd_f48)
abbrev X_f49 : Type := Int
abbrev R_f49 : Type := ByteArray
def J_f49 : BM Tryz.prog :=
 BS Tryz.prog Tryz.f178 53 [] [] [] [] [.any] [] [] R_f49 [] fun y => [V.str y]
def S_f49 : AO :=
 Aj Tryz.f178 1 0 X_f49 (fun x => [(V.int .i64) x]) fun l => (dI (at_ l 0))
def tt_f49 (x : X_f49) : TT Tryz.prog R_f49 :=
 (.ite (AW x 1)
 (.ret (ByteArray.mk #[114, 48, 48, 48, 110]))
 (.ite (AW x 2)
 (.ret (ByteArray.mk #[114, 114, 48, 48, 48]))
 (.ite (AW x 23)
 (.ret (ByteArray.mk #[114, 114, 48, 48, 48]))
 (.ite (Bw 3 x)
 (.ite (Bw x 14)
 (.ret (ByteArray.mk #[114, 114, 114, 48, 48]))
 (.ite (AW x 15)
 (.ret (ByteArray.mk #[48, 48, 48, 48, 112]))
 (.ite (AW x 16)
 (.ret (ByteArray.mk #[114, 48, 48, 48, 112]))
 (.ite (AW x 17)
 (.ret (ByteArray.mk #[114, 48, 48, 48, 112]))
 (.ite (AW x 18)
 (.ret (ByteArray.mk #[114, 114, 103, 109, 48]))
 (.ite (AW x 19)
 (.ret (ByteArray.mk #[114, 114, 103, 109, 100]))
 (.ite (AW x 20)
 (.ret (ByteArray.mk #[48, 48, 103, 48, 48]))
 (.ite (AW x 21)
 (.ret (ByteArray.mk #[114, 48, 48, 48, 48]))
 (.ite (AW x 22)
 (.ret (ByteArray.mk #[114, 48, 48, 48, 48]))
 (.ite (AW x 24)
 (.ret (ByteArray.mk #[114, 48, 48, 48, 48]))
 (.ite (AW x 25)
 (.ret (ByteArray.mk #[48, 48, 48, 48, 48]))
 (.ret (ByteArray.mk #[])))))))))))))
 (.ite (AW x 15)
 (.ret (ByteArray.mk #[48, 48, 48, 48, 112]))
 (.ite (AW x 16)
 (.ret (ByteArray.mk #[114, 48, 48, 48, 112]))
 (.ite (AW x 17)
 (.ret (ByteArray.mk #[114, 48, 48, 48, 112]))
 (.ite (AW x 18)
 (.ret (ByteArray.mk #[114, 114, 103, 109, 48]))
 (.ite (AW x 19)
 (.ret (ByteArray.mk #[114, 114, 103, 109, 100]))
 (.ite (AW x 20)
 (.ret (ByteArray.mk #[48, 48, 103, 48, 48]))
 (.ite (AW x 21)
 (.ret (ByteArray.mk #[114, 48, 48, 48, 48]))
 (.ite (AW x 22)
 (.ret (ByteArray.mk #[114, 48, 48, 48, 48]))
 (.ite (AW x 24)
 (.ret (ByteArray.mk #[114, 48, 48, 48, 48]))
 (.ite (AW x 25)
 (.ret (ByteArray.mk #[48, 48, 48, 48, 48]))
 (.ret (ByteArray.mk #[]))))))))))))))))
theorem sd_f49 (x : X_f49) : (tt_f49 x).AJ :=
 (TT.sI TT.sR (TT.sI TT.sR (TT.sI TT.sR (TT.sI (TT.sI TT.sR (TT.sI TT.sR (TT.sI TT.sR (TT.sI TT.sR (TT.sI TT.sR (TT.sI TT.sR (TT.sI TT.sR (TT.sI TT.sR (TT.sI TT.sR (TT.sI TT.sR (TT.sI TT.sR TT.sR))))))))))) (TT.sI TT.sR (TT.sI TT.sR (TT.sI TT.sR (TT.sI TT.sR (TT.sI TT.sR (TT.sI TT.sR (TT.sI TT.sR (TT.sI TT.sR (TT.sI TT.sR (TT.sI TT.sR TT.sR))))))))))))))
def D_f49 : AU X_f49 R_f49 := .of tt_f49
def con_f49 : BE Tryz.prog :=
 B2 178 J_f49 S_f49 D_f49 1 0 [.any] (lk mxk lbn sd_f49)
abbrev X_f45 : Type := Int
abbrev R_f45 : Type := Int
def J_f45 : BM Tryz.prog :=
 BS Tryz.prog Tryz.f179 14 [] [] [] [] [.any] [] [] R_f45 [] fun y => [(V.int .u64) y]
def S_f45 : AO :=
 Aj Tryz.f179 1 0 X_f45 (fun x => [(V.int .u8) x]) fun l => (dI (at_ l 0))
def tt_f45 (x : X_f45) : TT Tryz.prog R_f45 :=
 (.ite (AW x 114)
 (.ret 7)
 (.ite (AW x 103)
 (.ret 7)
 (.ite (AW x 100)
 (.ret 7)
 (.ite (AW x 109)
 (.ret 2)
 (.ite (AW x 112)
 (.ret 256)
 (.ite (AW x 110)
 (.ret 18446744073709551615)
 (.ret 0)))))))
theorem sd_f45 (x : X_f45) : (tt_f45 x).AJ :=
 (TT.sI TT.sR (TT.sI TT.sR (TT.sI TT.sR (TT.sI TT.sR (TT.sI TT.sR (TT.sI TT.sR TT.sR))))))
def D_f45 : AU X_f45 R_f45 := .of tt_f45
def con_f45 : BE Tryz.prog :=
 B2 179 J_f45 S_f45 D_f45 1 0 [.any] (lk mxk lbn sd_f45)
abbrev RA : Type := (Sl Int)
def Qu : RA → V := (MX none 1 (V.int .i64))
def Qv : V → RA := (L9 dI)
def Qo : Sh := (.sl none 1 (V.int .i64 0))
end Go.Proofs.YtiamaibincaihaaGreat
end
