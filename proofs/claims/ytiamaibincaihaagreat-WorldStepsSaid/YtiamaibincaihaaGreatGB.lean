/- What functions of the program come to, part B: no statement is proved here. -/
import Derived.Test.YtiamaibincaihaaGreatGA
noncomputable section
namespace Go.Proofs.YtiamaibincaihaaGreat
open Go Go.Vm Go.Proofs
set_option maxRecDepth 100000
abbrev X_fk : Type := TAk × TEv
abbrev R_fk : Type := Bool
def J_fk : BH Tryz.prog :=
 BN Tryz.prog Tryz.f161 79 [(2, 3), (3, 3)] [] [] [] [.any] [] [con_f37, con_f2r] R_fk [] fun y => [V.bool y]
def S_fk : AO :=
 Ah Tryz.f161 2 0 X_fk (fun x => [e_TAk x.1, e_TEv x.2]) fun l => (d_TAk (at_ l 0), d_TEv (at_ l 1))
structure X_fk_3 where
 DR : TAk
 Di : TEv
def S_fk_3 : AO :=
 Ad Tryz.f161 3 (an [2, 3]) [] [] X_fk_3 (fun x => [(CU e_TAk) x.DR, (CU e_TEv) x.Di]) fun l => ⟨(CV d_TAk) (at_ l 0), (CV d_TEv) (at_ l 1)⟩
structure X_fk_4 where
 DR : TAk
 Di : TEv
 KF : Bool
def S_fk_4 : AO :=
 Ad Tryz.f161 4 (an [2, 3, 5]) [] [] X_fk_4 (fun x => [(CU e_TAk) x.DR, (CU e_TEv) x.Di, V.bool x.KF]) fun l => ⟨(CV d_TAk) (at_ l 0), (CV d_TEv) (at_ l 1), dB (at_ l 2)⟩
structure X_fk_16 where
 DR : TAk
 Di : TEv
def S_fk_16 : AO :=
 Ad Tryz.f161 16 (an [2, 3]) [] [] X_fk_16 (fun x => [(CU e_TAk) x.DR, (CU e_TEv) x.Di]) fun l => ⟨(CV d_TAk) (at_ l 0), (CV d_TEv) (at_ l 1)⟩
def tt_fk_16 (x : X_fk_16) : TT Tryz.prog R_fk :=
 (.call con_f2r x.Di.Kind fun (y1 : R_f2r) =>
 (.ret (AW x.DR.Kind y1)))
theorem sd_fk_16 (x : X_fk_16) : (tt_fk_16 x).AJ :=
 (TT.sC fun _ => TT.sR)
def D_fk_16 : AU X_fk_16 R_fk := .of tt_fk_16
theorem ok_fk_16 : AY J_fk S_fk_16 D_fk_16 :=
 lk mxk lbn sd_fk_16
def tt_fk_4 (x : X_fk_4) : TT Tryz.prog R_fk :=
 (.ite (AW x.Di.Kind 5)
 (.ite x.KF
 (.ret (AW x.DR.Mode 0))
 (.ret false))
 (.ite (AW x.Di.Kind 6)
 (.ret x.KF)
 (.ite (AW x.Di.Kind 7)
 (.ite x.KF
 (.ret (AW x.DR.Mode 2))
 (.ret false))
 (.ite (AW x.Di.Kind 2)
 (.call con_f2r x.Di.Kind fun (y1 : R_f2r) =>
 (.ite (AW x.DR.Kind y1)
 (.ret (AW x.DR.AG x.Di.AG))
 (.ret false)))
 (.ite (AW x.Di.Kind 4)
 (.call con_f2r x.Di.Kind fun (y1 : R_f2r) =>
 (.ite (AW x.DR.Kind y1)
 (.ret (AW x.DR.AG x.Di.AG))
 (.ret false)))
 (.ite (AW x.Di.Kind 12)
 (.ite (AW x.DR.Kind 7)
 (.ret (AW x.DR.Value x.Di.Value))
 (.ret false))
 (.AM S_fk_16 D_fk_16 (X_fk_16.mk x.DR x.Di))))))))
theorem sd_fk_4 (x : X_fk_4) : (tt_fk_4 x).AJ :=
 (TT.sI (TT.sI TT.sR TT.sR) (TT.sI TT.sR (TT.sI (TT.sI TT.sR TT.sR) (TT.sI (TT.sC fun _ => (TT.sI TT.sR TT.sR)) (TT.sI (TT.sC fun _ => (TT.sI TT.sR TT.sR)) (TT.sI (TT.sI TT.sR TT.sR) TT.sJ))))))
def D_fk_4 : AU X_fk_4 R_fk := .of tt_fk_4
theorem ok_fk_4 : AY J_fk S_fk_4 D_fk_4 :=
 lk mxk (lbc ok_fk_16 rfl lbn) sd_fk_4
def tt_fk_3 (x : X_fk_3) : TT Tryz.prog R_fk :=
 (.ite (AW x.DR.Kind 1)
 (.AM S_fk_4 D_fk_4 (X_fk_4.mk x.DR x.Di true))
 (.AM S_fk_4 D_fk_4 (X_fk_4.mk x.DR x.Di (AW x.DR.Kind 2))))
theorem sd_fk_3 (x : X_fk_3) : (tt_fk_3 x).AJ :=
 (TT.sI TT.sJ TT.sJ)
def D_fk_3 : AU X_fk_3 R_fk := .of tt_fk_3
theorem ok_fk_3 : AY J_fk S_fk_3 D_fk_3 :=
 lk mxk (lbc ok_fk_16 rfl (lbc ok_fk_4 rfl lbn)) sd_fk_3
def tt_fk (x : X_fk) : TT Tryz.prog R_fk :=
 (.call con_f37 x.snd.Kind fun (y1 : R_f37) =>
 (.ite y1
 (.ite (!(AW x.fst.Ring x.snd.Ring))
 (.ret false)
 (.AM S_fk_3 D_fk_3 (X_fk_3.mk x.fst x.snd)))
 (.AM S_fk_3 D_fk_3 (X_fk_3.mk x.fst x.snd))))
theorem sd_fk (x : X_fk) : (tt_fk x).AJ :=
 (TT.sC fun _ => (TT.sI (TT.sI TT.sR TT.sJ) TT.sJ))
def D_fk : AU X_fk R_fk := .of tt_fk
def con_fk : BC Tryz.prog :=
 Br 161 J_fk S_fk D_fk 2 0 [.any, .any] (lk mxk (lbc ok_fk_16 rfl (lbc ok_fk_4 rfl (lbc ok_fk_3 rfl lbn))) sd_fk)
abbrev X_fp : Type := TIn × TEv × Int × TTh
abbrev R_fp : Type := TTh
def J_fp : BH Tryz.prog :=
 BN Tryz.prog Tryz.f162 121 [(4, 3), (6, 3), (98, 1)] [] [] [] [] [sh_TTh_6] [] R_fp [] fun y => [V.CN (V.unit), e_TTh_6 y]
def S_fp : AO :=
 Ah Tryz.f162 4 1 X_fp (fun x => [e_TIn x.1, (V.ptr (.par 0) []), e_TEv x.2.1, (V.int .u64) x.2.2.1, e_TTh_6 x.2.2.2]) fun l => (d_TIn (at_ l 0), d_TEv (at_ l 2), dI (at_ l 3), d_TTh (at_ l 4))
structure X_fp_23 where
 Ag : TTh
def S_fp_23 : AO :=
 Ad Tryz.f162 23 [(1, .any)] [sh_TTh_6] [] X_fp_23 (fun x => [(V.ptr (.par 0) []), e_TTh_6 x.Ag]) fun l => ⟨d_TTh (at_ l 1)⟩
def tt_fp_23 (x : X_fp_23) : TT Tryz.prog R_fp :=
 (.ret (TTh.mk (IntKind.i64.wrap (x.Ag.At + 1)) 0 0 x.Ag.Status 0 x.Ag.Ae x.Ag.Seen))
theorem sd_fp_23 (x : X_fp_23) : (tt_fp_23 x).AJ :=
 TT.sR
def D_fp_23 : AU X_fp_23 R_fp := .of tt_fp_23
theorem ok_fp_23 : AY J_fp S_fp_23 D_fp_23 :=
 lk mxk lbn sd_fp_23
def tt_fp (x : X_fp) : TT Tryz.prog R_fp :=
 (.ite (AW x.snd.fst.Kind 2)
 (.need (A3 x.fst.B 8) <|
 (.AM S_fp_23 D_fp_23 (X_fp_23.mk (TTh.mk x.snd.snd.snd.At x.snd.snd.snd.Phase x.snd.snd.snd.Ring x.snd.snd.snd.Status x.snd.snd.snd.AG (fun i1 => (cond (Nat.beq i1 (Int.toNat x.fst.B)) (0 : Int) (x.snd.snd.snd.Ae i1))) x.snd.snd.snd.Seen))))
 (.ite (AW x.snd.fst.Kind 4)
 (.need (A3 x.fst.A 8) <|
 (.need (A3 x.fst.B 8) <|
 (.AM S_fp_23 D_fp_23 (X_fp_23.mk (TTh.mk x.snd.snd.snd.At x.snd.snd.snd.Phase x.snd.snd.snd.Ring x.snd.snd.snd.Status x.snd.snd.snd.AG (fun i1 => (cond (Nat.beq i1 (Int.toNat x.fst.B)) (0 : Int) (cond (Nat.beq i1 (Int.toNat x.fst.A)) x.snd.snd.fst (x.snd.snd.snd.Ae i1)))) x.snd.snd.snd.Seen)))))
 (.ite (AW x.snd.fst.Kind 5)
 (.need (A3 x.fst.B 8) <|
 (.AM S_fp_23 D_fp_23 (X_fp_23.mk (TTh.mk x.snd.snd.snd.At x.snd.snd.snd.Phase x.snd.snd.snd.Ring x.snd.snd.snd.Status x.snd.snd.snd.AG (fun i1 => (cond (Nat.beq i1 (Int.toNat x.fst.B)) (1 : Int) (x.snd.snd.snd.Ae i1))) x.snd.snd.snd.Seen))))
 (.ite (AW x.snd.fst.Kind 6)
 (.need (A3 x.fst.B 8) <|
 (.AM S_fp_23 D_fp_23 (X_fp_23.mk (TTh.mk x.snd.snd.snd.At x.snd.snd.snd.Phase x.snd.snd.snd.Ring x.snd.snd.snd.Status x.snd.snd.snd.AG (fun i1 => (cond (Nat.beq i1 (Int.toNat x.fst.B)) (2 : Int) (x.snd.snd.snd.Ae i1))) x.snd.snd.snd.Seen))))
 (.ite (AW x.snd.fst.Kind 7)
 (.need (A3 x.fst.B 8) <|
 (.AM S_fp_23 D_fp_23 (X_fp_23.mk (TTh.mk x.snd.snd.snd.At x.snd.snd.snd.Phase x.snd.snd.snd.Ring x.snd.snd.snd.Status x.snd.snd.snd.AG (fun i1 => (cond (Nat.beq i1 (Int.toNat x.fst.B)) (3 : Int) (x.snd.snd.snd.Ae i1))) x.snd.snd.snd.Seen))))
 (.ite (AW x.snd.fst.Kind 8)
 (.need (A3 x.fst.A 8) <|
 (.AM S_fp_23 D_fp_23 (X_fp_23.mk (TTh.mk x.snd.snd.snd.At x.snd.snd.snd.Phase x.snd.snd.snd.Ring x.snd.snd.snd.Status x.snd.snd.snd.AG (fun i1 => (cond (Nat.beq i1 (Int.toNat x.fst.A)) x.snd.fst.Value (x.snd.snd.snd.Ae i1))) x.snd.snd.snd.Seen))))
 (.ite (AW x.snd.fst.Kind 9)
 (.need (A3 x.fst.A 8) <|
 (.AM S_fp_23 D_fp_23 (X_fp_23.mk (TTh.mk x.snd.snd.snd.At x.snd.snd.snd.Phase x.snd.snd.snd.Ring x.snd.snd.snd.Status x.snd.snd.snd.AG (fun i1 => (cond (Nat.beq i1 (Int.toNat x.fst.A)) x.snd.fst.Value (x.snd.snd.snd.Ae i1))) x.snd.snd.snd.Seen))))
 (.ite (AW x.snd.fst.Kind 10)
 (.need (A3 x.fst.A 8) <|
 (.need (A3 x.fst.B 8) <|
 (.AM S_fp_23 D_fp_23 (X_fp_23.mk (TTh.mk x.snd.snd.snd.At x.snd.snd.snd.Phase x.snd.snd.snd.Ring x.snd.snd.snd.Status x.snd.snd.snd.AG (fun i1 => (cond (Nat.beq i1 (Int.toNat x.fst.B)) (0 : Int) (cond (Nat.beq i1 (Int.toNat x.fst.A)) x.snd.fst.Value (x.snd.snd.snd.Ae i1)))) x.snd.snd.snd.Seen)))))
 (.ite (AW x.snd.fst.Kind 11)
 (.need (A3 x.fst.B 8) <|
 (.AM S_fp_23 D_fp_23 (X_fp_23.mk (TTh.mk x.snd.snd.snd.At x.snd.snd.snd.Phase x.snd.snd.snd.Ring x.snd.snd.snd.Status x.snd.snd.snd.AG (fun i1 => (cond (Nat.beq i1 (Int.toNat x.fst.B)) (1 : Int) (x.snd.snd.snd.Ae i1))) x.snd.snd.snd.Seen))))
 (.ite (AW x.snd.fst.Kind 12)
 (.need (true && (room (x.snd.snd.snd.Seen.n + 1) 8)) <|
 (.AM S_fp_23 D_fp_23 (X_fp_23.mk (TTh.mk x.snd.snd.snd.At x.snd.snd.snd.Phase x.snd.snd.snd.Ring x.snd.snd.snd.Status x.snd.snd.snd.AG x.snd.snd.snd.Ae (Sl.mk (cond (Nat.beq 1 0) x.snd.snd.snd.Seen.nil false) (x.snd.snd.snd.Seen.n + 1) (fun i1 => (cond (Nat.blt i1 x.snd.snd.snd.Seen.n) (x.snd.snd.snd.Seen.get i1) x.snd.fst.Value)))))))
 (.AM S_fp_23 D_fp_23 (X_fp_23.mk x.snd.snd.snd))))))))))))
theorem sd_fp (x : X_fp) : (tt_fp x).AJ :=
 (TT.sI (TT.sN TT.sJ) (TT.sI (TT.sN (TT.sN TT.sJ)) (TT.sI (TT.sN TT.sJ) (TT.sI (TT.sN TT.sJ) (TT.sI (TT.sN TT.sJ) (TT.sI (TT.sN TT.sJ) (TT.sI (TT.sN TT.sJ) (TT.sI (TT.sN (TT.sN TT.sJ)) (TT.sI (TT.sN TT.sJ) (TT.sI (TT.sN TT.sJ) TT.sJ))))))))))
def D_fp : AU X_fp R_fp := .of tt_fp
def con_fp : BC Tryz.prog :=
 Br 162 J_fp S_fp D_fp 4 1 [.any, .any, .any, .any] (lk mxk (lbc ok_fp_23 rfl lbn) sd_fp)
abbrev X_f28 : Type := (Sl TIn) × TTh × TEv × Int
abbrev R_f28 : Type := TTh × Int
def J_f28 : BH Tryz.prog :=
 BN Tryz.prog Tryz.f113 75 [(6, 3), (12, 1), (42, 1)] [] [] [] [sh_TTh, .any] [] [con_f38, con_f36, con_fp, con_fk] R_f28 [] fun y => [V.CN (V.cons (e_TTh y.1) (V.cons ((V.int .i64) y.2) (V.unit)))]
def S_f28 : AO :=
 Ah Tryz.f113 4 0 X_f28 (fun x => [esl_TIn x.1, e_TTh x.2.1, e_TEv x.2.2.1, (V.int .u64) x.2.2.2]) fun l => (dsl_TIn (at_ l 0), d_TTh (at_ l 1), d_TEv (at_ l 2), dI (at_ l 3))
structure X_f28_8 where
 B2 : (Sl TIn)
 VF : Int
 Iq : TEv
 BD : TTh
 Gi : TTh
def S_f28_8 : AO :=
 Ad Tryz.f113 8 [(0, hsl_TIn), (3, .any), (5, .any), (6, .any), (8, .any)] [] [(.loc 5 0, sh_TTh_6), (.loc 8 0, sh_TTh_6)] X_f28_8 (fun x => [esl_TIn x.B2, (V.int .u64) x.VF, (V.ptr (.loc 5 0) []), (CU e_TEv) x.Iq, (V.ptr (.loc 8 0) []), e_TTh_6 x.BD, e_TTh_6 x.Gi]) fun l => ⟨dsl_TIn (at_ l 0), dI (at_ l 1), (CV d_TEv) (at_ l 3), d_TTh (at_ l 5), d_TTh (at_ l 6)⟩
def tt_f28_8 (x : X_f28_8) : TT Tryz.prog R_f28 :=
 (.ite (AW x.Iq.Kind 1)
 (.ret ((TTh.mk x.BD.At 1 x.Iq.Ring x.BD.Status x.Iq.AG x.BD.Ae x.BD.Seen), 0))
 (.ite (AW x.Iq.Kind 3)
 (.ret ((TTh.mk x.BD.At 2 x.Iq.Ring x.BD.Status x.Iq.AG x.BD.Ae x.BD.Seen), 0))
 (.ite (AW x.Iq.Kind 14)
 (.ret ((TTh.mk x.BD.At x.BD.Phase x.BD.Ring 1 x.BD.AG x.BD.Ae x.BD.Seen), 0))
 (.ite (AW x.Iq.Kind 15)
 (.ret ((TTh.mk x.BD.At x.BD.Phase x.BD.Ring 2 x.BD.AG x.BD.Ae x.BD.Seen), 0))
 (.need (A3 x.BD.At x.B2.n) <|
 (.call con_fp ((x.B2.get (Int.toNat x.BD.At)), (x.Iq, (x.VF, x.BD))) fun (y1 : R_fp) =>
 (.ret (y1, 0))))))))
theorem sd_f28_8 (x : X_f28_8) : (tt_f28_8 x).AJ :=
 (TT.sI TT.sR (TT.sI TT.sR (TT.sI TT.sR (TT.sI TT.sR (TT.sN (TT.sC fun _ => TT.sR))))))
def D_f28_8 : AU X_f28_8 R_f28 := .of tt_f28_8
theorem ok_f28_8 : AY J_f28 S_f28_8 D_f28_8 :=
 lk mxk lbn sd_f28_8
def tt_f28 (x : X_f28) : TT Tryz.prog R_f28 :=
 (.call con_f36 (x.fst, x.snd.fst) fun (y1 : R_f36) =>
 (.ite (!(AW y1.snd.snd 0))
 (.ret ((TTh.mk 0 0 0 0 0 (fun _i2 => (0 : Int)) (Sl.mk true 0 (fun _i2 => (0 : Int)))), y1.snd.snd))
 (.call con_f38 x.snd.snd.fst fun (y2 : R_f38) =>
 (.ite (!y2)
 (.ret ((TTh.mk 0 0 0 0 0 (fun _i3 => (0 : Int)) (Sl.mk true 0 (fun _i3 => (0 : Int)))), 3))
 (.ite (AW y1.snd.fst.Kind 0)
 (.ret ((TTh.mk 0 0 0 0 0 (fun _i3 => (0 : Int)) (Sl.mk true 0 (fun _i3 => (0 : Int)))), 11))
 (.call con_fk (y1.snd.fst, x.snd.snd.fst) fun (y3 : R_fk) =>
 (.ite (!y3)
 (.ret ((TTh.mk 0 0 0 0 0 (fun _i4 => (0 : Int)) (Sl.mk true 0 (fun _i4 => (0 : Int)))), 11))
 (.AM S_f28_8 D_f28_8 (X_f28_8.mk x.fst x.snd.snd.snd x.snd.snd.fst y1.fst (TTh.mk 0 0 0 0 0 (fun _i4 => (0 : Int)) (Sl.mk true 0 (fun _i4 => (0 : Int)))))))))))))
theorem sd_f28 (x : X_f28) : (tt_f28 x).AJ :=
 (TT.sC fun _ => (TT.sI TT.sR (TT.sC fun _ => (TT.sI TT.sR (TT.sI TT.sR (TT.sC fun _ => (TT.sI TT.sR TT.sJ)))))))
def D_f28 : AU X_f28 R_f28 := .of tt_f28
def con_f28 : BC Tryz.prog :=
 Br 113 J_f28 S_f28 D_f28 4 0 [hsl_TIn, sh_TTh, .any, .any] (lk mxk (lbc ok_f28_8 rfl lbn) sd_f28)
abbrev X_f16 : Type := TEv × TFa
abbrev R_f16 : Type := Int
abbrev RR_f16 : Type := Int × TFa
abbrev p_f16 (y : RR_f16) : TFa := y.2
abbrev w_f16 (x : X_f16) : TFa := x.2
def J_f16 : BH Tryz.prog :=
 BN Tryz.prog Tryz.f62 43 [(3, 3), (20, 1)] [(8, [.back (.loc 33 0)])] [(7, [.IC (.par 0) [.B8 1 2] 33])] [.back (.loc 33 0)] [.any] [sh_TFa] [con_f38, con_f1b, con_f28] RR_f16 [(0, [⟨.loc 33 0, .par 0, [.B8 1 2], none, none⟩])] fun y => [(V.int .i64) y.1, e_TFa y.2]
def S_f16 : AO :=
 Ah Tryz.f62 2 1 X_f16 (fun x => [(V.ptr (.par 0) []), e_TEv x.1, e_TFa x.2]) fun l => (d_TEv (at_ l 1), d_TFa (at_ l 2))
def tt_f16 (x : X_f16) : TT Tryz.prog RR_f16 :=
 (.call con_f38 x.fst fun (y1 : R_f38) =>
 (.ite (!y1)
 (.ret (3, x.snd))
 (.call con_f1b (x.fst.Thread, x.snd) fun (y2 : R_f1b) =>
 (.ite (!y2)
 (.ret (5, x.snd))
 (.need (A3 x.fst.Thread x.snd.p.AB.n) <|
 (.need (A3 x.fst.Thread x.snd.threads.n) <|
 (.need ((Nat.beq x.snd.threads.n x.snd.threads.n) && true) <|
 (.call con_f28 ((x.snd.p.AB.get (Int.toNat x.fst.Thread)), ((x.snd.threads.get ((0 : Nat) + (Int.toNat x.fst.Thread))), (x.fst, 0))) fun (y3 : R_f28) =>
 (.need ((true && true) && (Nat.beq x.snd.threads.n x.snd.threads.n)) <|
 (.ret (y3.snd, x.snd)))))))))))
theorem sd_f16 (x : X_f16) : (tt_f16 x).AJ :=
 (TT.sC fun _ => (TT.sI TT.sR (TT.sC fun _ => (TT.sI TT.sR (TT.sN (TT.sN (TT.sN (TT.sC fun _ => (TT.sN TT.sR)))))))))
theorem roT_f16 (x : X_f16) : TT.Ro p_f16 (w_f16 x) (tt_f16 x) :=
 (TT.rC fun _ => (TT.rI (TT.rR rfl) (TT.rC fun _ => (TT.rI (TT.rR rfl) (TT.rN (TT.rN (TT.rN (TT.rC fun _ => (TT.rN (TT.rR rfl))))))))))
def D_f16 : AU X_f16 R_f16 := .ro (.of tt_f16) (fun y => (y.1)) (fun y x => (y, x.2)) fun x y h => congrArg (fun o => (y.1, o)) (roT_f16 x y h)
def con_f16 : BC Tryz.prog :=
 DT 62 J_f16 S_f16 (.of tt_f16) D_f16 (fun y x => (y, x.2)) (fun y => (V.int .i64) y) 2 1 [.any, .any] (lk mxk lbn sd_f16) (fun x => ⟨(nu_e_TFa : ∀ y, (e_TFa y).Ch) (x.2), trivial⟩)
abbrev X_f17 : Type := TAk × TFa
abbrev R_f17 : Type := Bool
abbrev RR_f17 : Type := Bool × TFa
abbrev p_f17 (y : RR_f17) : TFa := y.2
abbrev w_f17 (x : X_f17) : TFa := x.2
def J_f17 : BH Tryz.prog :=
 BN Tryz.prog Tryz.f114 27 [(3, 3)] [] [(1, [.IC (.par 0) [.B8 2 3] 9])] [.back (.loc 13 0), .back (.loc 9 0)] [.any] [sh_TFa] [con_f15, con_f18, con_f1l] RR_f17 [(0, [⟨.loc 9 0, .par 0, [.B8 2 3], none, none⟩])] fun y => [V.bool y.1, e_TFa y.2]
def S_f17 : AO :=
 Ah Tryz.f114 2 1 X_f17 (fun x => [(V.ptr (.par 0) []), e_TAk x.1, e_TFa x.2]) fun l => (d_TAk (at_ l 1), d_TFa (at_ l 2))
def tt_f17 (x : X_f17) : TT Tryz.prog RR_f17 :=
 (.need (A3 x.fst.Ring x.snd.rings.n) <|
 (.need (((Nat.beq x.snd.rings.n x.snd.rings.n) && true) && (!(x.snd.rings.get ((0 : Nat) + (Int.toNat x.fst.Ring))).nil)) <|
 (.ite (AW x.fst.Kind 1)
 (.call con_f15 (x.snd.rings.get ((0 : Nat) + (Int.toNat x.fst.Ring))).x fun (y1 : R_f15) =>
 (.ite y1
 (.need ((true && true) && (((Nat.beq x.snd.rings.n x.snd.rings.n) && (Nat.blt ((0 : Nat) + (Int.toNat x.fst.Ring)) x.snd.rings.n)) && (!(x.snd.rings.get ((0 : Nat) + (Int.toNat x.fst.Ring))).nil))) <|
 (.side (((fun v : Nat → V => v = v) (fun i2 => (cond (Nat.beq i2 ((0 : Nat) + (Int.toNat x.fst.Ring))) (V.ptr (Id.loc 13 0) List.nil) (V.Aj (x.snd.rings.get i2).nil (V.cons (V.cons (V.int IntKind.u64 (x.snd.rings.get i2).x.AA.tail) (V.cons (V.A7 36 1 (x.snd.rings.get i2).x.AA.AD.nil (x.snd.rings.get i2).x.AA.AD.n (fun i3 => (V.int IntKind.u64 ((x.snd.rings.get i2).x.AA.AD.get i3)))) V.unit)) (V.cons (V.Aj (x.snd.rings.get i2).x.s.nil (V.cons (V.A7 175 3 (x.snd.rings.get i2).x.s.x.l.nil (x.snd.rings.get i2).x.s.x.l.n (fun i3 => (V.cons (V.int IntKind.u64 ((x.snd.rings.get i2).x.s.x.l.get i3).AP) (V.cons (V.int IntKind.u64 ((x.snd.rings.get i2).x.s.x.l.get i3).Value) (V.cons (V.int IntKind.i64 ((x.snd.rings.get i2).x.s.x.l.get i3).Left) V.unit))))) (V.cons (V.int IntKind.i64 (x.snd.rings.get i2).x.s.x.AX) V.unit))) (V.cons (V.int IntKind.u64 (x.snd.rings.get i2).x.most) (V.cons (V.bool (x.snd.rings.get i2).x.closed) V.unit)))))))) ∧ (((fun v : V => v = v) (V.cons (V.cons (V.int IntKind.u64 (x.snd.rings.get ((0 : Nat) + (Int.toNat x.fst.Ring))).x.AA.tail) (V.cons (V.A7 36 1 (x.snd.rings.get ((0 : Nat) + (Int.toNat x.fst.Ring))).x.AA.AD.nil (x.snd.rings.get ((0 : Nat) + (Int.toNat x.fst.Ring))).x.AA.AD.n (fun i2 => (V.int IntKind.u64 ((x.snd.rings.get ((0 : Nat) + (Int.toNat x.fst.Ring))).x.AA.AD.get i2)))) V.unit)) (V.cons (V.Aj (x.snd.rings.get ((0 : Nat) + (Int.toNat x.fst.Ring))).x.s.nil (V.cons (V.A7 175 3 (x.snd.rings.get ((0 : Nat) + (Int.toNat x.fst.Ring))).x.s.x.l.nil (x.snd.rings.get ((0 : Nat) + (Int.toNat x.fst.Ring))).x.s.x.l.n (fun i2 => (V.cons (V.int IntKind.u64 ((x.snd.rings.get ((0 : Nat) + (Int.toNat x.fst.Ring))).x.s.x.l.get i2).AP) (V.cons (V.int IntKind.u64 ((x.snd.rings.get ((0 : Nat) + (Int.toNat x.fst.Ring))).x.s.x.l.get i2).Value) (V.cons (V.int IntKind.i64 ((x.snd.rings.get ((0 : Nat) + (Int.toNat x.fst.Ring))).x.s.x.l.get i2).Left) V.unit))))) (V.cons (V.int IntKind.i64 (x.snd.rings.get ((0 : Nat) + (Int.toNat x.fst.Ring))).x.s.x.AX) V.unit))) (V.cons (V.int IntKind.u64 (x.snd.rings.get ((0 : Nat) + (Int.toNat x.fst.Ring))).x.most) (V.cons (V.bool (x.snd.rings.get ((0 : Nat) + (Int.toNat x.fst.Ring))).x.closed) V.unit))))) ∧ ((fun v : V => v = v) (V.Aj (x.snd.rings.get ((0 : Nat) + (Int.toNat x.fst.Ring))).nil (V.cons (V.cons (V.int IntKind.u64 (x.snd.rings.get ((0 : Nat) + (Int.toNat x.fst.Ring))).x.AA.tail) (V.cons (V.A7 36 1 (x.snd.rings.get ((0 : Nat) + (Int.toNat x.fst.Ring))).x.AA.AD.nil (x.snd.rings.get ((0 : Nat) + (Int.toNat x.fst.Ring))).x.AA.AD.n (fun i2 => (V.int IntKind.u64 ((x.snd.rings.get ((0 : Nat) + (Int.toNat x.fst.Ring))).x.AA.AD.get i2)))) V.unit)) (V.cons (V.Aj (x.snd.rings.get ((0 : Nat) + (Int.toNat x.fst.Ring))).x.s.nil (V.cons (V.A7 175 3 (x.snd.rings.get ((0 : Nat) + (Int.toNat x.fst.Ring))).x.s.x.l.nil (x.snd.rings.get ((0 : Nat) + (Int.toNat x.fst.Ring))).x.s.x.l.n (fun i2 => (V.cons (V.int IntKind.u64 ((x.snd.rings.get ((0 : Nat) + (Int.toNat x.fst.Ring))).x.s.x.l.get i2).AP) (V.cons (V.int IntKind.u64 ((x.snd.rings.get ((0 : Nat) + (Int.toNat x.fst.Ring))).x.s.x.l.get i2).Value) (V.cons (V.int IntKind.i64 ((x.snd.rings.get ((0 : Nat) + (Int.toNat x.fst.Ring))).x.s.x.l.get i2).Left) V.unit))))) (V.cons (V.int IntKind.i64 (x.snd.rings.get ((0 : Nat) + (Int.toNat x.fst.Ring))).x.s.x.AX) V.unit))) (V.cons (V.int IntKind.u64 (x.snd.rings.get ((0 : Nat) + (Int.toNat x.fst.Ring))).x.most) (V.cons (V.bool (x.snd.rings.get ((0 : Nat) + (Int.toNat x.fst.Ring))).x.closed) V.unit)))))))) <|
 (.need ((true && true) && (Nat.beq x.snd.rings.n x.snd.rings.n)) <|
 (.ret (true, x.snd)))))
 (.call con_f1l (x.snd.rings.get ((0 : Nat) + (Int.toNat x.fst.Ring))).x fun (y2 : R_f1l) =>
 (.need ((true && true) && (((Nat.beq x.snd.rings.n x.snd.rings.n) && (Nat.blt ((0 : Nat) + (Int.toNat x.fst.Ring)) x.snd.rings.n)) && (!(x.snd.rings.get ((0 : Nat) + (Int.toNat x.fst.Ring))).nil))) <|
 (.side (((fun v : Nat → V => v = v) (fun i3 => (cond (Nat.beq i3 ((0 : Nat) + (Int.toNat x.fst.Ring))) (V.ptr (Id.loc 13 0) List.nil) (V.Aj (x.snd.rings.get i3).nil (V.cons (V.cons (V.int IntKind.u64 (x.snd.rings.get i3).x.AA.tail) (V.cons (V.A7 36 1 (x.snd.rings.get i3).x.AA.AD.nil (x.snd.rings.get i3).x.AA.AD.n (fun i4 => (V.int IntKind.u64 ((x.snd.rings.get i3).x.AA.AD.get i4)))) V.unit)) (V.cons (V.Aj (x.snd.rings.get i3).x.s.nil (V.cons (V.A7 175 3 (x.snd.rings.get i3).x.s.x.l.nil (x.snd.rings.get i3).x.s.x.l.n (fun i4 => (V.cons (V.int IntKind.u64 ((x.snd.rings.get i3).x.s.x.l.get i4).AP) (V.cons (V.int IntKind.u64 ((x.snd.rings.get i3).x.s.x.l.get i4).Value) (V.cons (V.int IntKind.i64 ((x.snd.rings.get i3).x.s.x.l.get i4).Left) V.unit))))) (V.cons (V.int IntKind.i64 (x.snd.rings.get i3).x.s.x.AX) V.unit))) (V.cons (V.int IntKind.u64 (x.snd.rings.get i3).x.most) (V.cons (V.bool (x.snd.rings.get i3).x.closed) V.unit)))))))) ∧ (((fun v : V => v = v) (V.cons (V.cons (V.int IntKind.u64 (x.snd.rings.get ((0 : Nat) + (Int.toNat x.fst.Ring))).x.AA.tail) (V.cons (V.A7 36 1 (x.snd.rings.get ((0 : Nat) + (Int.toNat x.fst.Ring))).x.AA.AD.nil (x.snd.rings.get ((0 : Nat) + (Int.toNat x.fst.Ring))).x.AA.AD.n (fun i3 => (V.int IntKind.u64 ((x.snd.rings.get ((0 : Nat) + (Int.toNat x.fst.Ring))).x.AA.AD.get i3)))) V.unit)) (V.cons (V.Aj (x.snd.rings.get ((0 : Nat) + (Int.toNat x.fst.Ring))).x.s.nil (V.cons (V.A7 175 3 (x.snd.rings.get ((0 : Nat) + (Int.toNat x.fst.Ring))).x.s.x.l.nil (x.snd.rings.get ((0 : Nat) + (Int.toNat x.fst.Ring))).x.s.x.l.n (fun i3 => (V.cons (V.int IntKind.u64 ((x.snd.rings.get ((0 : Nat) + (Int.toNat x.fst.Ring))).x.s.x.l.get i3).AP) (V.cons (V.int IntKind.u64 ((x.snd.rings.get ((0 : Nat) + (Int.toNat x.fst.Ring))).x.s.x.l.get i3).Value) (V.cons (V.int IntKind.i64 ((x.snd.rings.get ((0 : Nat) + (Int.toNat x.fst.Ring))).x.s.x.l.get i3).Left) V.unit))))) (V.cons (V.int IntKind.i64 (x.snd.rings.get ((0 : Nat) + (Int.toNat x.fst.Ring))).x.s.x.AX) V.unit))) (V.cons (V.int IntKind.u64 (x.snd.rings.get ((0 : Nat) + (Int.toNat x.fst.Ring))).x.most) (V.cons (V.bool (x.snd.rings.get ((0 : Nat) + (Int.toNat x.fst.Ring))).x.closed) V.unit))))) ∧ ((fun v : V => v = v) (V.Aj (x.snd.rings.get ((0 : Nat) + (Int.toNat x.fst.Ring))).nil (V.cons (V.cons (V.int IntKind.u64 (x.snd.rings.get ((0 : Nat) + (Int.toNat x.fst.Ring))).x.AA.tail) (V.cons (V.A7 36 1 (x.snd.rings.get ((0 : Nat) + (Int.toNat x.fst.Ring))).x.AA.AD.nil (x.snd.rings.get ((0 : Nat) + (Int.toNat x.fst.Ring))).x.AA.AD.n (fun i3 => (V.int IntKind.u64 ((x.snd.rings.get ((0 : Nat) + (Int.toNat x.fst.Ring))).x.AA.AD.get i3)))) V.unit)) (V.cons (V.Aj (x.snd.rings.get ((0 : Nat) + (Int.toNat x.fst.Ring))).x.s.nil (V.cons (V.A7 175 3 (x.snd.rings.get ((0 : Nat) + (Int.toNat x.fst.Ring))).x.s.x.l.nil (x.snd.rings.get ((0 : Nat) + (Int.toNat x.fst.Ring))).x.s.x.l.n (fun i3 => (V.cons (V.int IntKind.u64 ((x.snd.rings.get ((0 : Nat) + (Int.toNat x.fst.Ring))).x.s.x.l.get i3).AP) (V.cons (V.int IntKind.u64 ((x.snd.rings.get ((0 : Nat) + (Int.toNat x.fst.Ring))).x.s.x.l.get i3).Value) (V.cons (V.int IntKind.i64 ((x.snd.rings.get ((0 : Nat) + (Int.toNat x.fst.Ring))).x.s.x.l.get i3).Left) V.unit))))) (V.cons (V.int IntKind.i64 (x.snd.rings.get ((0 : Nat) + (Int.toNat x.fst.Ring))).x.s.x.AX) V.unit))) (V.cons (V.int IntKind.u64 (x.snd.rings.get ((0 : Nat) + (Int.toNat x.fst.Ring))).x.most) (V.cons (V.bool (x.snd.rings.get ((0 : Nat) + (Int.toNat x.fst.Ring))).x.closed) V.unit)))))))) <|
 (.need ((true && true) && (Nat.beq x.snd.rings.n x.snd.rings.n)) <|
 (.ret (y2, x.snd))))))))
 (.call con_f18 (x.fst.Reader, (x.snd.rings.get ((0 : Nat) + (Int.toNat x.fst.Ring))).x) fun (y1 : R_f18) =>
 (.need ((true && true) && (((Nat.beq x.snd.rings.n x.snd.rings.n) && (Nat.blt ((0 : Nat) + (Int.toNat x.fst.Ring)) x.snd.rings.n)) && (!(x.snd.rings.get ((0 : Nat) + (Int.toNat x.fst.Ring))).nil))) <|
 (.side (((fun v : Nat → V => v = v) (fun i2 => (cond (Nat.beq i2 ((0 : Nat) + (Int.toNat x.fst.Ring))) (V.ptr (Id.loc 13 0) List.nil) (V.Aj (x.snd.rings.get i2).nil (V.cons (V.cons (V.int IntKind.u64 (x.snd.rings.get i2).x.AA.tail) (V.cons (V.A7 36 1 (x.snd.rings.get i2).x.AA.AD.nil (x.snd.rings.get i2).x.AA.AD.n (fun i3 => (V.int IntKind.u64 ((x.snd.rings.get i2).x.AA.AD.get i3)))) V.unit)) (V.cons (V.Aj (x.snd.rings.get i2).x.s.nil (V.cons (V.A7 175 3 (x.snd.rings.get i2).x.s.x.l.nil (x.snd.rings.get i2).x.s.x.l.n (fun i3 => (V.cons (V.int IntKind.u64 ((x.snd.rings.get i2).x.s.x.l.get i3).AP) (V.cons (V.int IntKind.u64 ((x.snd.rings.get i2).x.s.x.l.get i3).Value) (V.cons (V.int IntKind.i64 ((x.snd.rings.get i2).x.s.x.l.get i3).Left) V.unit))))) (V.cons (V.int IntKind.i64 (x.snd.rings.get i2).x.s.x.AX) V.unit))) (V.cons (V.int IntKind.u64 (x.snd.rings.get i2).x.most) (V.cons (V.bool (x.snd.rings.get i2).x.closed) V.unit)))))))) ∧ (((fun v : V => v = v) (V.cons (V.cons (V.int IntKind.u64 (x.snd.rings.get ((0 : Nat) + (Int.toNat x.fst.Ring))).x.AA.tail) (V.cons (V.A7 36 1 (x.snd.rings.get ((0 : Nat) + (Int.toNat x.fst.Ring))).x.AA.AD.nil (x.snd.rings.get ((0 : Nat) + (Int.toNat x.fst.Ring))).x.AA.AD.n (fun i2 => (V.int IntKind.u64 ((x.snd.rings.get ((0 : Nat) + (Int.toNat x.fst.Ring))).x.AA.AD.get i2)))) V.unit)) (V.cons (V.Aj (x.snd.rings.get ((0 : Nat) + (Int.toNat x.fst.Ring))).x.s.nil (V.cons (V.A7 175 3 (x.snd.rings.get ((0 : Nat) + (Int.toNat x.fst.Ring))).x.s.x.l.nil (x.snd.rings.get ((0 : Nat) + (Int.toNat x.fst.Ring))).x.s.x.l.n (fun i2 => (V.cons (V.int IntKind.u64 ((x.snd.rings.get ((0 : Nat) + (Int.toNat x.fst.Ring))).x.s.x.l.get i2).AP) (V.cons (V.int IntKind.u64 ((x.snd.rings.get ((0 : Nat) + (Int.toNat x.fst.Ring))).x.s.x.l.get i2).Value) (V.cons (V.int IntKind.i64 ((x.snd.rings.get ((0 : Nat) + (Int.toNat x.fst.Ring))).x.s.x.l.get i2).Left) V.unit))))) (V.cons (V.int IntKind.i64 (x.snd.rings.get ((0 : Nat) + (Int.toNat x.fst.Ring))).x.s.x.AX) V.unit))) (V.cons (V.int IntKind.u64 (x.snd.rings.get ((0 : Nat) + (Int.toNat x.fst.Ring))).x.most) (V.cons (V.bool (x.snd.rings.get ((0 : Nat) + (Int.toNat x.fst.Ring))).x.closed) V.unit))))) ∧ ((fun v : V => v = v) (V.Aj (x.snd.rings.get ((0 : Nat) + (Int.toNat x.fst.Ring))).nil (V.cons (V.cons (V.int IntKind.u64 (x.snd.rings.get ((0 : Nat) + (Int.toNat x.fst.Ring))).x.AA.tail) (V.cons (V.A7 36 1 (x.snd.rings.get ((0 : Nat) + (Int.toNat x.fst.Ring))).x.AA.AD.nil (x.snd.rings.get ((0 : Nat) + (Int.toNat x.fst.Ring))).x.AA.AD.n (fun i2 => (V.int IntKind.u64 ((x.snd.rings.get ((0 : Nat) + (Int.toNat x.fst.Ring))).x.AA.AD.get i2)))) V.unit)) (V.cons (V.Aj (x.snd.rings.get ((0 : Nat) + (Int.toNat x.fst.Ring))).x.s.nil (V.cons (V.A7 175 3 (x.snd.rings.get ((0 : Nat) + (Int.toNat x.fst.Ring))).x.s.x.l.nil (x.snd.rings.get ((0 : Nat) + (Int.toNat x.fst.Ring))).x.s.x.l.n (fun i2 => (V.cons (V.int IntKind.u64 ((x.snd.rings.get ((0 : Nat) + (Int.toNat x.fst.Ring))).x.s.x.l.get i2).AP) (V.cons (V.int IntKind.u64 ((x.snd.rings.get ((0 : Nat) + (Int.toNat x.fst.Ring))).x.s.x.l.get i2).Value) (V.cons (V.int IntKind.i64 ((x.snd.rings.get ((0 : Nat) + (Int.toNat x.fst.Ring))).x.s.x.l.get i2).Left) V.unit))))) (V.cons (V.int IntKind.i64 (x.snd.rings.get ((0 : Nat) + (Int.toNat x.fst.Ring))).x.s.x.AX) V.unit))) (V.cons (V.int IntKind.u64 (x.snd.rings.get ((0 : Nat) + (Int.toNat x.fst.Ring))).x.most) (V.cons (V.bool (x.snd.rings.get ((0 : Nat) + (Int.toNat x.fst.Ring))).x.closed) V.unit)))))))) <|
 (.need ((true && true) && (Nat.beq x.snd.rings.n x.snd.rings.n)) <|
 (.ret (y1, x.snd)))))))))
theorem sd_f17 (x : X_f17) : (tt_f17 x).AJ :=
 (TT.sN (TT.sN (TT.sI (TT.sC fun _ => (TT.sI (TT.sN (TT.sS ⟨rfl, ⟨rfl, rfl⟩⟩ (TT.sN TT.sR))) (TT.sC fun _ => (TT.sN (TT.sS ⟨rfl, ⟨rfl, rfl⟩⟩ (TT.sN TT.sR)))))) (TT.sC fun _ => (TT.sN (TT.sS ⟨rfl, ⟨rfl, rfl⟩⟩ (TT.sN TT.sR)))))))
theorem roT_f17 (x : X_f17) : TT.Ro p_f17 (w_f17 x) (tt_f17 x) :=
 (TT.rN (TT.rN (TT.rI (TT.rC fun _ => (TT.rI (TT.rN (TT.rS (TT.rN (TT.rR rfl)))) (TT.rC fun _ => (TT.rN (TT.rS (TT.rN (TT.rR rfl))))))) (TT.rC fun _ => (TT.rN (TT.rS (TT.rN (TT.rR rfl))))))))
def D_f17 : AU X_f17 R_f17 := .ro (.of tt_f17) (fun y => (y.1)) (fun y x => (y, x.2)) fun x y h => congrArg (fun o => (y.1, o)) (roT_f17 x y h)
def con_f17 : BC Tryz.prog :=
 DT 114 J_f17 S_f17 (.of tt_f17) D_f17 (fun y x => (y, x.2)) (fun y => V.bool y) 2 1 [.any, .any] (lk mxk lbn sd_f17) (fun x => ⟨(nu_e_TFa : ∀ y, (e_TFa y).Ch) (x.2), trivial⟩)
structure TSs_L0 where
 l : Ln
 AX : Int
def d_TSs_L0 (v : V) : TSs_L0 :=
 ⟨Rq (fd v 0), dI (fd v 1)⟩
def e_TSs_L0_1 (x : TSs_L0) : V :=
 V.cons ((eLn (.par 1) 175 3) x.l) (V.cons ((V.int .i64) x.AX) (V.unit))
theorem nu_e_TSs_L0_1 (x : TSs_L0) : (e_TSs_L0_1 x).Ch := ⟨trivial, trivial, trivial⟩
abbrev X_fv : Type := Int × TSs_L0 × (Ar TSo)
abbrev R_fv : Type := (Nat × Nat)
abbrev RR_fv : Type := (Nat × Nat) × TSs_L0 × (Ar TSo)
abbrev p_fv (y : RR_fv) : TSs_L0 × (Ar TSo) := y.2
abbrev w_fv (x : X_fv) : TSs_L0 × (Ar TSo) := x.2
def J_fv : BH Tryz.prog :=
 BN Tryz.prog Tryz.f191 18 [] [] [] [.Eg 4] [.any] [.any, .any] [] RR_fv [] fun y => [(ePt 1 3) y.1, e_TSs_L0_1 y.2.1, (Md 3 e_TSo) y.2.2]
def S_fv : AO :=
 Ah Tryz.f191 2 2 X_fv (fun x => [(V.ptr (.par 0) []), (V.int .u64) x.1, e_TSs_L0_1 x.2.1, (Md 3 e_TSo) x.2.2]) fun l => (dI (at_ l 1), d_TSs_L0 (at_ l 2), (Rb d_TSo) (at_ l 3))
def tt_fv (x : X_fv) : TT Tryz.prog RR_fv :=
 (.need (!(AW (IntKind.u64.wrap ((x.snd.fst.l.n : Nat) : Int)) 0)) <|
 (.need (A3 (Int.tmod x.fst (IntKind.u64.wrap ((x.snd.fst.l.n : Nat) : Int))) x.snd.fst.l.n) <|
 (.ret ((((0 : Nat) + (Int.toNat (Int.tmod x.fst (IntKind.u64.wrap ((x.snd.fst.l.n : Nat) : Int))))), x.snd.fst.l.n), (x.snd.fst, x.snd.snd)))))
theorem sd_fv (x : X_fv) : (tt_fv x).AJ :=
 (TT.sN (TT.sN TT.sR))
theorem roT_fv (x : X_fv) : TT.Ro p_fv (w_fv x) (tt_fv x) :=
 (TT.rN (TT.rN (TT.rR rfl)))
def D_fv : AU X_fv R_fv := .ro (.of tt_fv) (fun y => (y.1)) (fun y x => (y, x.2)) fun x y h => congrArg (fun o => (y.1, o)) (roT_fv x y h)
def con_fv : BC Tryz.prog :=
 DT 191 J_fv S_fv (.of tt_fv) D_fv (fun y x => (y, x.2)) (fun y => (ePt 1 3) y) 2 2 [.any, .any] (lk mxk lbn sd_fv) (fun x => ⟨(nu_e_TSs_L0_1 : ∀ y, (e_TSs_L0_1 y).Ch) (x.2.1), (fun _ _ => (nu_e_TSo) _ : ∀ y, ((Md 3 e_TSo) y).Ch) (x.2.2), trivial⟩)
abbrev X_f1r : Type := Int × TSs
abbrev R_f1r : Type := Bool
abbrev RR_f1r : Type := Bool × TSs
abbrev p_f1r (y : RR_f1r) : TSs := y.2
abbrev w_f1r (x : X_f1r) : TSs := x.2
def J_f1r : BH Tryz.prog :=
 BN Tryz.prog Tryz.f189 22 [] [] [(1, [.IC (.par 0) [.B8 0 0] 14])] [.back (.loc 14 0)] [.any] [sh_TSs] [con_fv, con_f2q] RR_f1r [(0, [⟨.loc 14 0, .par 0, [.B8 0 0], none, none⟩])] fun y => [V.bool y.1, e_TSs y.2]
def S_f1r : AO :=
 Ah Tryz.f189 2 1 X_f1r (fun x => [(V.ptr (.par 0) []), (V.int .u64) x.1, e_TSs x.2]) fun l => (dI (at_ l 1), d_TSs (at_ l 2))
def tt_f1r (x : X_f1r) : TT Tryz.prog RR_f1r :=
 (.ite (Bg x.fst 4611686018427387904)
 (.call con_fv (x.fst, ((TSs_L0.mk (Ln.mk x.snd.l.nil x.snd.l.n) x.snd.AX), (Ar.mk x.snd.l.n x.snd.l.get))) fun (y1 : R_fv) =>
 (.need ((Nat.beq x.snd.l.n y1.snd) && true) <|
 (.call con_f2q x.fst fun (y2 : R_f2q) =>
 (.need ((true && true) && (Nat.beq x.snd.l.n x.snd.l.n)) <|
 (.ret ((AW (x.snd.l.get y1.fst).AP y2), x.snd))))))
 (.need ((true && true) && (Nat.beq x.snd.l.n x.snd.l.n)) <|
 (.ret (false, x.snd))))
theorem sd_f1r (x : X_f1r) : (tt_f1r x).AJ :=
 (TT.sI (TT.sC fun _ => (TT.sN (TT.sC fun _ => (TT.sN TT.sR)))) (TT.sN TT.sR))
theorem roT_f1r (x : X_f1r) : TT.Ro p_f1r (w_f1r x) (tt_f1r x) :=
 (TT.rI (TT.rC fun _ => (TT.rN (TT.rC fun _ => (TT.rN (TT.rR rfl))))) (TT.rN (TT.rR rfl)))
def D_f1r : AU X_f1r R_f1r := .ro (.of tt_f1r) (fun y => (y.1)) (fun y x => (y, x.2)) fun x y h => congrArg (fun o => (y.1, o)) (roT_f1r x y h)
def con_f1r : BC Tryz.prog :=
 DT 189 J_f1r S_f1r (.of tt_f1r) D_f1r (fun y x => (y, x.2)) (fun y => V.bool y) 2 1 [.any, .any] (lk mxk lbn sd_f1r) (fun x => ⟨(nu_e_TSs : ∀ y, (e_TSs y).Ch) (x.2), trivial⟩)
abbrev X_f25 : Type := Int × TRr
abbrev R_f25 : Type := Bool
abbrev RR_f25 : Type := Bool × TRr
abbrev p_f25 (y : RR_f25) : TRr := y.2
abbrev w_f25 (x : X_f25) : TRr := x.2
def J_f25 : BH Tryz.prog :=
 BN Tryz.prog Tryz.f163 24 [] [] [] [.back (.loc 20 0)] [.any] [sh_TRr] [con_f1r] RR_f25 [] fun y => [V.bool y.1, e_TRr y.2]
def S_f25 : AO :=
 Ah Tryz.f163 2 1 X_f25 (fun x => [(V.ptr (.par 0) []), (V.int .u64) x.1, e_TRr x.2]) fun l => (dI (at_ l 1), d_TRr (at_ l 2))
def tt_f25 (x : X_f25) : TT Tryz.prog RR_f25 :=
 (.ite (Bg x.fst x.snd.AA.tail)
 (.need (true && (!x.snd.s.nil)) <|
 (.call con_f1r (x.fst, x.snd.s.x) fun (y1 : R_f1r) =>
 (.need ((true && true) && (!x.snd.s.nil)) <|
 (.side ((fun v : V => v = v) (V.cons (V.A7 175 3 x.snd.s.x.l.nil x.snd.s.x.l.n (fun i2 => (V.cons (V.int IntKind.u64 (x.snd.s.x.l.get i2).AP) (V.cons (V.int IntKind.u64 (x.snd.s.x.l.get i2).Value) (V.cons (V.int IntKind.i64 (x.snd.s.x.l.get i2).Left) V.unit))))) (V.cons (V.int IntKind.i64 x.snd.s.x.AX) V.unit))) <|
 (.ret (y1, x.snd))))))
 (.ret (false, x.snd)))
theorem sd_f25 (x : X_f25) : (tt_f25 x).AJ :=
 (TT.sI (TT.sN (TT.sC fun _ => (TT.sN (TT.sS rfl TT.sR)))) TT.sR)
theorem roT_f25 (x : X_f25) : TT.Ro p_f25 (w_f25 x) (tt_f25 x) :=
 (TT.rI (TT.rN (TT.rC fun _ => (TT.rN (TT.rS (TT.rR rfl))))) (TT.rR rfl))
def D_f25 : AU X_f25 R_f25 := .ro (.of tt_f25) (fun y => (y.1)) (fun y x => (y, x.2)) fun x y h => congrArg (fun o => (y.1, o)) (roT_f25 x y h)
def con_f25 : BC Tryz.prog :=
 DT 163 J_f25 S_f25 (.of tt_f25) D_f25 (fun y x => (y, x.2)) (fun y => V.bool y) 2 1 [.any, .any] (lk mxk lbn sd_f25) (fun x => ⟨(nu_e_TRr : ∀ y, (e_TRr y).Ch) (x.2), trivial⟩)
abbrev X_f39 : Type := Int
abbrev R_f39 : Type := Int
def J_f39 : BH Tryz.prog :=
 BN Tryz.prog Tryz.f192 6 [] [] [] [] [.any] [] [] R_f39 [] fun y => [(V.int .u64) y]
def S_f39 : AO :=
 Ah Tryz.f192 1 0 X_f39 (fun x => [(V.int .u64) x]) fun l => (dI (at_ l 0))
def tt_f39 (x : X_f39) : TT Tryz.prog R_f39 :=
 (.ret (IntKind.u64.wrap ((IntKind.u64.wrap ((2 : Int) * x)) + 1)))
theorem sd_f39 (x : X_f39) : (tt_f39 x).AJ :=
 TT.sR
def D_f39 : AU X_f39 R_f39 := .of tt_f39
def con_f39 : BC Tryz.prog :=
 Br 192 J_f39 S_f39 D_f39 1 0 [.any] (lk mxk lbn sd_f39)
abbrev X_fo : Type := Int × Int × TSs
abbrev R_fo : Type := Int
abbrev RR_fo : Type := Int × TSs
abbrev p_fo (y : RR_fo) : TSs := y.2
abbrev w_fo (x : X_fo) : TSs := x.2.2
def J_fo : BH Tryz.prog :=
 BN Tryz.prog Tryz.f193 51 [] [(7, [.back (.loc 26 0)]), (10, [.back (.loc 26 0)]), (11, [.back (.loc 26 0)])] [(5, [.IC (.par 0) [.B8 0 0] 26])] [.back (.loc 26 0)] [.any] [sh_TSs] [con_fv, con_f39] RR_fo [(0, [⟨.loc 26 0, .par 0, [.B8 0 0], none, none⟩]), (5, [⟨.loc 26 0, .par 0, [.B8 0 0], none, none⟩])] fun y => [(V.int .i64) y.1, e_TSs y.2]
def S_fo : AO :=
 Ah Tryz.f193 3 1 X_fo (fun x => [(V.ptr (.par 0) []), (V.int .i64) x.1, (V.int .u64) x.2.1, e_TSs x.2.2]) fun l => (dI (at_ l 1), dI (at_ l 2), d_TSs (at_ l 3))
structure X_fo_5 where
 FF : Int
 Lh : Int
 Ag : TSs
def S_fo_5 : AO :=
 Ad Tryz.f193 5 (an [0, 1, 2]) [sh_TSs] [] X_fo_5 (fun x => [(V.ptr (.par 0) []), (V.int .i64) x.FF, (V.int .u64) x.Lh, e_TSs x.Ag]) fun l => ⟨dI (at_ l 1), dI (at_ l 2), d_TSs (at_ l 3)⟩
abbrev w_fo_5 (x : X_fo_5) : TSs := (x.Ag)
def tt_fo_5 (x : X_fo_5) : TT Tryz.prog RR_fo :=
 (.call con_fv (x.Lh, ((TSs_L0.mk (Ln.mk x.Ag.l.nil x.Ag.l.n) x.Ag.AX), (Ar.mk x.Ag.l.n x.Ag.l.get))) fun (y1 : R_fv) =>
 (.need ((Nat.beq x.Ag.l.n y1.snd) && true) <|
 (.call con_f39 x.Lh fun (y2 : R_f39) =>
 (.ite (Bg (x.Ag.l.get y1.fst).AP y2)
 (.need ((true && true) && (Nat.beq x.Ag.l.n x.Ag.l.n)) <|
 (.ret (9, x.Ag)))
 (.need ((Nat.beq x.Ag.l.n y1.snd) && true) <|
 (.call con_f39 x.Lh fun (y3 : R_f39) =>
 (.ite (Bg y3 (x.Ag.l.get y1.fst).AP)
 (.need ((true && true) && (Nat.beq x.Ag.l.n x.Ag.l.n)) <|
 (.ret (11, x.Ag)))
 (.need ((Nat.beq x.Ag.l.n y1.snd) && true) <|
 (.need (Bm 0 x.FF) <|
 (.ite (AW (Vm.bits .and IntKind.i64 (shr IntKind.i64 (x.Ag.l.get y1.fst).Left x.FF) 1) 0)
 (.need ((true && true) && (Nat.beq x.Ag.l.n x.Ag.l.n)) <|
 (.ret (11, x.Ag)))
 (.need ((true && true) && (Nat.beq x.Ag.l.n x.Ag.l.n)) <|
 (.ret (0, x.Ag)))))))))))))
theorem sd_fo_5 (x : X_fo_5) : (tt_fo_5 x).AJ :=
 (TT.sC fun _ => (TT.sN (TT.sC fun _ => (TT.sI (TT.sN TT.sR) (TT.sN (TT.sC fun _ => (TT.sI (TT.sN TT.sR) (TT.sN (TT.sN (TT.sI (TT.sN TT.sR) (TT.sN TT.sR)))))))))))
theorem roT_fo_5 (x : X_fo_5) : TT.Ro p_fo (w_fo_5 x) (tt_fo_5 x) :=
 (TT.rC fun _ => (TT.rN (TT.rC fun _ => (TT.rI (TT.rN (TT.rR rfl)) (TT.rN (TT.rC fun _ => (TT.rI (TT.rN (TT.rR rfl)) (TT.rN (TT.rN (TT.rI (TT.rN (TT.rR rfl)) (TT.rN (TT.rR rfl))))))))))))
def D_fo_5 : AU X_fo_5 RR_fo := .of tt_fo_5
theorem ok_fo_5 : AY J_fo S_fo_5 D_fo_5 :=
 lk mxk lbn sd_fo_5
theorem ro_fo_5 : ∀ x y, D_fo_5.rel x y → p_fo y = w_fo_5 x :=
 roT_fo_5 
def tt_fo (x : X_fo) : TT Tryz.prog RR_fo :=
 (.ite (Bm 4611686018427387904 x.snd.fst)
 (.ret (1, x.snd.snd))
 (.ite (Bg x.fst 0)
 (.ret (1, x.snd.snd))
 (.ite (Bm x.snd.snd.AX x.fst)
 (.ret (1, x.snd.snd))
 (.AM S_fo_5 D_fo_5 (X_fo_5.mk x.fst x.snd.fst x.snd.snd)))))
theorem sd_fo (x : X_fo) : (tt_fo x).AJ :=
 (TT.sI TT.sR (TT.sI TT.sR (TT.sI TT.sR TT.sJ)))
theorem roT_fo (x : X_fo) : TT.Ro p_fo (w_fo x) (tt_fo x) :=
 (TT.rI (TT.rR rfl) (TT.rI (TT.rR rfl) (TT.rI (TT.rR rfl) (TT.rJ (ro_fo_5 _)))))
def D_fo : AU X_fo R_fo := .ro (.of tt_fo) (fun y => (y.1)) (fun y x => (y, x.2.2)) fun x y h => congrArg (fun o => (y.1, o)) (roT_fo x y h)
def con_fo : BC Tryz.prog :=
 DT 193 J_fo S_fo (.of tt_fo) D_fo (fun y x => (y, x.2.2)) (fun y => (V.int .i64) y) 3 1 [.any, .any, .any] (lk mxk (lbc ok_fo_5 rfl lbn) sd_fo) (fun x => ⟨(nu_e_TSs : ∀ y, (e_TSs y).Ch) (x.2.2), trivial⟩)
abbrev X_f20 : Type := Int × Int × TSs
abbrev R_f20 : Type := Bool
abbrev RR_f20 : Type := Bool × TSs
abbrev p_f20 (y : RR_f20) : TSs := y.2
abbrev w_f20 (x : X_f20) : TSs := x.2.2
def J_f20 : BH Tryz.prog :=
 BN Tryz.prog Tryz.f190 12 [] [] [] [] [.any] [sh_TSs] [con_fo] RR_f20 [] fun y => [V.bool y.1, e_TSs y.2]
def S_f20 : AO :=
 Ah Tryz.f190 3 1 X_f20 (fun x => [(V.ptr (.par 0) []), (V.int .i64) x.1, (V.int .u64) x.2.1, e_TSs x.2.2]) fun l => (dI (at_ l 1), dI (at_ l 2), d_TSs (at_ l 3))
def tt_f20 (x : X_f20) : TT Tryz.prog RR_f20 :=
 (.call con_fo x fun (y1 : R_fo) =>
 (.ret ((AW y1 0), x.snd.snd)))
theorem sd_f20 (x : X_f20) : (tt_f20 x).AJ :=
 (TT.sC fun _ => TT.sR)
theorem roT_f20 (x : X_f20) : TT.Ro p_f20 (w_f20 x) (tt_f20 x) :=
 (TT.rC fun _ => (TT.rR rfl))
def D_f20 : AU X_f20 R_f20 := .ro (.of tt_f20) (fun y => (y.1)) (fun y x => (y, x.2.2)) fun x y h => congrArg (fun o => (y.1, o)) (roT_f20 x y h)
def con_f20 : BC Tryz.prog :=
 DT 190 J_f20 S_f20 (.of tt_f20) D_f20 (fun y x => (y, x.2.2)) (fun y => V.bool y) 3 1 [.any, .any, .any] (lk mxk lbn sd_f20) (fun x => ⟨(nu_e_TSs : ∀ y, (e_TSs y).Ch) (x.2.2), trivial⟩)
abbrev X_f2e : Type := Int × Int × TRr
abbrev R_f2e : Type := Bool
abbrev RR_f2e : Type := Bool × TRr
abbrev p_f2e (y : RR_f2e) : TRr := y.2
abbrev w_f2e (x : X_f2e) : TRr := x.2.2
def J_f2e : BH Tryz.prog :=
 BN Tryz.prog Tryz.f164 37 [] [] [] [.back (.loc 32 0), .back (.loc 22 0)] [.any] [sh_TRr] [con_fz, con_f20] RR_f2e [] fun y => [V.bool y.1, e_TRr y.2]
def S_f2e : AO :=
 Ah Tryz.f164 3 1 X_f2e (fun x => [(V.ptr (.par 0) []), (V.int .i64) x.1, (V.int .u64) x.2.1, e_TRr x.2.2]) fun l => (dI (at_ l 1), dI (at_ l 2), d_TRr (at_ l 3))
def tt_f2e (x : X_f2e) : TT Tryz.prog RR_f2e :=
 (.call con_fz (x.fst, x.snd.snd.AA) fun (y1 : R_fz) =>
 (.ite y1
 (.need (A3 x.fst x.snd.snd.AA.AD.n) <|
 (.need ((Nat.beq x.snd.snd.AA.AD.n x.snd.snd.AA.AD.n) && true) <|
 (.ite (Bg x.snd.fst (x.snd.snd.AA.AD.get ((0 : Nat) + (Int.toNat x.fst))))
 (.need (true && (!x.snd.snd.s.nil)) <|
 (.call con_f20 (x.fst, (x.snd.fst, x.snd.snd.s.x)) fun (y2 : R_f20) =>
 (.need ((true && true) && (!x.snd.snd.s.nil)) <|
 (.side ((fun v : V => v = v) (V.cons (V.A7 175 3 x.snd.snd.s.x.l.nil x.snd.snd.s.x.l.n (fun i3 => (V.cons (V.int IntKind.u64 (x.snd.snd.s.x.l.get i3).AP) (V.cons (V.int IntKind.u64 (x.snd.snd.s.x.l.get i3).Value) (V.cons (V.int IntKind.i64 (x.snd.snd.s.x.l.get i3).Left) V.unit))))) (V.cons (V.int IntKind.i64 x.snd.snd.s.x.AX) V.unit))) <|
 (.need ((true && true) && (Nat.beq x.snd.snd.AA.AD.n x.snd.snd.AA.AD.n)) <|
 (.ret (y2, x.snd.snd)))))))
 (.need ((true && true) && (Nat.beq x.snd.snd.AA.AD.n x.snd.snd.AA.AD.n)) <|
 (.ret (false, x.snd.snd))))))
 (.ret (false, x.snd.snd))))
theorem sd_f2e (x : X_f2e) : (tt_f2e x).AJ :=
 (TT.sC fun _ => (TT.sI (TT.sN (TT.sN (TT.sI (TT.sN (TT.sC fun _ => (TT.sN (TT.sS rfl (TT.sN TT.sR))))) (TT.sN TT.sR)))) TT.sR))
theorem roT_f2e (x : X_f2e) : TT.Ro p_f2e (w_f2e x) (tt_f2e x) :=
 (TT.rC fun _ => (TT.rI (TT.rN (TT.rN (TT.rI (TT.rN (TT.rC fun _ => (TT.rN (TT.rS (TT.rN (TT.rR rfl)))))) (TT.rN (TT.rR rfl))))) (TT.rR rfl)))
def D_f2e : AU X_f2e R_f2e := .ro (.of tt_f2e) (fun y => (y.1)) (fun y x => (y, x.2.2)) fun x y h => congrArg (fun o => (y.1, o)) (roT_f2e x y h)
def con_f2e : BC Tryz.prog :=
 DT 164 J_f2e S_f2e (.of tt_f2e) D_f2e (fun y x => (y, x.2.2)) (fun y => V.bool y) 3 1 [.any, .any, .any] (lk mxk lbn sd_f2e) (fun x => ⟨(nu_e_TRr : ∀ y, (e_TRr y).Ch) (x.2.2), trivial⟩)
abbrev X_f1g : Type := TEv × TAk × TFa
abbrev R_f1g : Type := Bool
abbrev RR_f1g : Type := Bool × TFa
abbrev p_f1g (y : RR_f1g) : TFa := y.2
abbrev w_f1g (x : X_f1g) : TFa := x.2.2
def J_f1g : BH Tryz.prog :=
 BN Tryz.prog Tryz.f116 65 [(4, 3), (5, 3)] [] [(1, [.IC (.par 0) [.B8 2 3] 11])] [.back (.loc 15 0), .back (.loc 11 0)] [.any] [sh_TFa] [con_f18, con_f25, con_f1l, con_f2e, con_fr, con_f1x] RR_f1g [(0, [⟨.loc 11 0, .par 0, [.B8 2 3], none, none⟩])] fun y => [V.bool y.1, e_TFa y.2]
def S_f1g : AO :=
 Ah Tryz.f116 3 1 X_f1g (fun x => [(V.ptr (.par 0) []), e_TEv x.1, e_TAk x.2.1, e_TFa x.2.2]) fun l => (d_TEv (at_ l 1), d_TAk (at_ l 2), d_TFa (at_ l 3))
def tt_f1g (x : X_f1g) : TT Tryz.prog RR_f1g :=
 (.need (A3 x.fst.Ring x.snd.snd.rings.n) <|
 (.need (((Nat.beq x.snd.snd.rings.n x.snd.snd.rings.n) && true) && (!(x.snd.snd.rings.get ((0 : Nat) + (Int.toNat x.fst.Ring))).nil)) <|
 (.ite (AW x.fst.Kind 1)
 (.call con_f1l (x.snd.snd.rings.get ((0 : Nat) + (Int.toNat x.fst.Ring))).x fun (y1 : R_f1l) =>
 (.ite (!y1)
 (.call con_f1x (x.snd.snd.rings.get ((0 : Nat) + (Int.toNat x.fst.Ring))).x fun (y2 : R_f1x) =>
 (.need ((true && true) && (((Nat.beq x.snd.snd.rings.n x.snd.snd.rings.n) && (Nat.blt ((0 : Nat) + (Int.toNat x.fst.Ring)) x.snd.snd.rings.n)) && (!(x.snd.snd.rings.get ((0 : Nat) + (Int.toNat x.fst.Ring))).nil))) <|
 (.side (((fun v : Nat → V => v = v) (fun i3 => (cond (Nat.beq i3 ((0 : Nat) + (Int.toNat x.fst.Ring))) (V.ptr (Id.loc 15 0) List.nil) (V.Aj (x.snd.snd.rings.get i3).nil (V.cons (V.cons (V.int IntKind.u64 (x.snd.snd.rings.get i3).x.AA.tail) (V.cons (V.A7 36 1 (x.snd.snd.rings.get i3).x.AA.AD.nil (x.snd.snd.rings.get i3).x.AA.AD.n (fun i4 => (V.int IntKind.u64 ((x.snd.snd.rings.get i3).x.AA.AD.get i4)))) V.unit)) (V.cons (V.Aj (x.snd.snd.rings.get i3).x.s.nil (V.cons (V.A7 175 3 (x.snd.snd.rings.get i3).x.s.x.l.nil (x.snd.snd.rings.get i3).x.s.x.l.n (fun i4 => (V.cons (V.int IntKind.u64 ((x.snd.snd.rings.get i3).x.s.x.l.get i4).AP) (V.cons (V.int IntKind.u64 ((x.snd.snd.rings.get i3).x.s.x.l.get i4).Value) (V.cons (V.int IntKind.i64 ((x.snd.snd.rings.get i3).x.s.x.l.get i4).Left) V.unit))))) (V.cons (V.int IntKind.i64 (x.snd.snd.rings.get i3).x.s.x.AX) V.unit))) (V.cons (V.int IntKind.u64 (x.snd.snd.rings.get i3).x.most) (V.cons (V.bool (x.snd.snd.rings.get i3).x.closed) V.unit)))))))) ∧ (((fun v : V => v = v) (V.cons (V.cons (V.int IntKind.u64 (x.snd.snd.rings.get ((0 : Nat) + (Int.toNat x.fst.Ring))).x.AA.tail) (V.cons (V.A7 36 1 (x.snd.snd.rings.get ((0 : Nat) + (Int.toNat x.fst.Ring))).x.AA.AD.nil (x.snd.snd.rings.get ((0 : Nat) + (Int.toNat x.fst.Ring))).x.AA.AD.n (fun i3 => (V.int IntKind.u64 ((x.snd.snd.rings.get ((0 : Nat) + (Int.toNat x.fst.Ring))).x.AA.AD.get i3)))) V.unit)) (V.cons (V.Aj (x.snd.snd.rings.get ((0 : Nat) + (Int.toNat x.fst.Ring))).x.s.nil (V.cons (V.A7 175 3 (x.snd.snd.rings.get ((0 : Nat) + (Int.toNat x.fst.Ring))).x.s.x.l.nil (x.snd.snd.rings.get ((0 : Nat) + (Int.toNat x.fst.Ring))).x.s.x.l.n (fun i3 => (V.cons (V.int IntKind.u64 ((x.snd.snd.rings.get ((0 : Nat) + (Int.toNat x.fst.Ring))).x.s.x.l.get i3).AP) (V.cons (V.int IntKind.u64 ((x.snd.snd.rings.get ((0 : Nat) + (Int.toNat x.fst.Ring))).x.s.x.l.get i3).Value) (V.cons (V.int IntKind.i64 ((x.snd.snd.rings.get ((0 : Nat) + (Int.toNat x.fst.Ring))).x.s.x.l.get i3).Left) V.unit))))) (V.cons (V.int IntKind.i64 (x.snd.snd.rings.get ((0 : Nat) + (Int.toNat x.fst.Ring))).x.s.x.AX) V.unit))) (V.cons (V.int IntKind.u64 (x.snd.snd.rings.get ((0 : Nat) + (Int.toNat x.fst.Ring))).x.most) (V.cons (V.bool (x.snd.snd.rings.get ((0 : Nat) + (Int.toNat x.fst.Ring))).x.closed) V.unit))))) ∧ ((fun v : V => v = v) (V.Aj (x.snd.snd.rings.get ((0 : Nat) + (Int.toNat x.fst.Ring))).nil (V.cons (V.cons (V.int IntKind.u64 (x.snd.snd.rings.get ((0 : Nat) + (Int.toNat x.fst.Ring))).x.AA.tail) (V.cons (V.A7 36 1 (x.snd.snd.rings.get ((0 : Nat) + (Int.toNat x.fst.Ring))).x.AA.AD.nil (x.snd.snd.rings.get ((0 : Nat) + (Int.toNat x.fst.Ring))).x.AA.AD.n (fun i3 => (V.int IntKind.u64 ((x.snd.snd.rings.get ((0 : Nat) + (Int.toNat x.fst.Ring))).x.AA.AD.get i3)))) V.unit)) (V.cons (V.Aj (x.snd.snd.rings.get ((0 : Nat) + (Int.toNat x.fst.Ring))).x.s.nil (V.cons (V.A7 175 3 (x.snd.snd.rings.get ((0 : Nat) + (Int.toNat x.fst.Ring))).x.s.x.l.nil (x.snd.snd.rings.get ((0 : Nat) + (Int.toNat x.fst.Ring))).x.s.x.l.n (fun i3 => (V.cons (V.int IntKind.u64 ((x.snd.snd.rings.get ((0 : Nat) + (Int.toNat x.fst.Ring))).x.s.x.l.get i3).AP) (V.cons (V.int IntKind.u64 ((x.snd.snd.rings.get ((0 : Nat) + (Int.toNat x.fst.Ring))).x.s.x.l.get i3).Value) (V.cons (V.int IntKind.i64 ((x.snd.snd.rings.get ((0 : Nat) + (Int.toNat x.fst.Ring))).x.s.x.l.get i3).Left) V.unit))))) (V.cons (V.int IntKind.i64 (x.snd.snd.rings.get ((0 : Nat) + (Int.toNat x.fst.Ring))).x.s.x.AX) V.unit))) (V.cons (V.int IntKind.u64 (x.snd.snd.rings.get ((0 : Nat) + (Int.toNat x.fst.Ring))).x.most) (V.cons (V.bool (x.snd.snd.rings.get ((0 : Nat) + (Int.toNat x.fst.Ring))).x.closed) V.unit)))))))) <|
 (.need ((true && true) && (Nat.beq x.snd.snd.rings.n x.snd.snd.rings.n)) <|
 (.ret ((AW x.fst.AG y2), x.snd.snd))))))
 (.need ((true && true) && (((Nat.beq x.snd.snd.rings.n x.snd.snd.rings.n) && (Nat.blt ((0 : Nat) + (Int.toNat x.fst.Ring)) x.snd.snd.rings.n)) && (!(x.snd.snd.rings.get ((0 : Nat) + (Int.toNat x.fst.Ring))).nil))) <|
 (.side (((fun v : Nat → V => v = v) (fun i2 => (cond (Nat.beq i2 ((0 : Nat) + (Int.toNat x.fst.Ring))) (V.ptr (Id.loc 15 0) List.nil) (V.Aj (x.snd.snd.rings.get i2).nil (V.cons (V.cons (V.int IntKind.u64 (x.snd.snd.rings.get i2).x.AA.tail) (V.cons (V.A7 36 1 (x.snd.snd.rings.get i2).x.AA.AD.nil (x.snd.snd.rings.get i2).x.AA.AD.n (fun i3 => (V.int IntKind.u64 ((x.snd.snd.rings.get i2).x.AA.AD.get i3)))) V.unit)) (V.cons (V.Aj (x.snd.snd.rings.get i2).x.s.nil (V.cons (V.A7 175 3 (x.snd.snd.rings.get i2).x.s.x.l.nil (x.snd.snd.rings.get i2).x.s.x.l.n (fun i3 => (V.cons (V.int IntKind.u64 ((x.snd.snd.rings.get i2).x.s.x.l.get i3).AP) (V.cons (V.int IntKind.u64 ((x.snd.snd.rings.get i2).x.s.x.l.get i3).Value) (V.cons (V.int IntKind.i64 ((x.snd.snd.rings.get i2).x.s.x.l.get i3).Left) V.unit))))) (V.cons (V.int IntKind.i64 (x.snd.snd.rings.get i2).x.s.x.AX) V.unit))) (V.cons (V.int IntKind.u64 (x.snd.snd.rings.get i2).x.most) (V.cons (V.bool (x.snd.snd.rings.get i2).x.closed) V.unit)))))))) ∧ (((fun v : V => v = v) (V.cons (V.cons (V.int IntKind.u64 (x.snd.snd.rings.get ((0 : Nat) + (Int.toNat x.fst.Ring))).x.AA.tail) (V.cons (V.A7 36 1 (x.snd.snd.rings.get ((0 : Nat) + (Int.toNat x.fst.Ring))).x.AA.AD.nil (x.snd.snd.rings.get ((0 : Nat) + (Int.toNat x.fst.Ring))).x.AA.AD.n (fun i2 => (V.int IntKind.u64 ((x.snd.snd.rings.get ((0 : Nat) + (Int.toNat x.fst.Ring))).x.AA.AD.get i2)))) V.unit)) (V.cons (V.Aj (x.snd.snd.rings.get ((0 : Nat) + (Int.toNat x.fst.Ring))).x.s.nil (V.cons (V.A7 175 3 (x.snd.snd.rings.get ((0 : Nat) + (Int.toNat x.fst.Ring))).x.s.x.l.nil (x.snd.snd.rings.get ((0 : Nat) + (Int.toNat x.fst.Ring))).x.s.x.l.n (fun i2 => (V.cons (V.int IntKind.u64 ((x.snd.snd.rings.get ((0 : Nat) + (Int.toNat x.fst.Ring))).x.s.x.l.get i2).AP) (V.cons (V.int IntKind.u64 ((x.snd.snd.rings.get ((0 : Nat) + (Int.toNat x.fst.Ring))).x.s.x.l.get i2).Value) (V.cons (V.int IntKind.i64 ((x.snd.snd.rings.get ((0 : Nat) + (Int.toNat x.fst.Ring))).x.s.x.l.get i2).Left) V.unit))))) (V.cons (V.int IntKind.i64 (x.snd.snd.rings.get ((0 : Nat) + (Int.toNat x.fst.Ring))).x.s.x.AX) V.unit))) (V.cons (V.int IntKind.u64 (x.snd.snd.rings.get ((0 : Nat) + (Int.toNat x.fst.Ring))).x.most) (V.cons (V.bool (x.snd.snd.rings.get ((0 : Nat) + (Int.toNat x.fst.Ring))).x.closed) V.unit))))) ∧ ((fun v : V => v = v) (V.Aj (x.snd.snd.rings.get ((0 : Nat) + (Int.toNat x.fst.Ring))).nil (V.cons (V.cons (V.int IntKind.u64 (x.snd.snd.rings.get ((0 : Nat) + (Int.toNat x.fst.Ring))).x.AA.tail) (V.cons (V.A7 36 1 (x.snd.snd.rings.get ((0 : Nat) + (Int.toNat x.fst.Ring))).x.AA.AD.nil (x.snd.snd.rings.get ((0 : Nat) + (Int.toNat x.fst.Ring))).x.AA.AD.n (fun i2 => (V.int IntKind.u64 ((x.snd.snd.rings.get ((0 : Nat) + (Int.toNat x.fst.Ring))).x.AA.AD.get i2)))) V.unit)) (V.cons (V.Aj (x.snd.snd.rings.get ((0 : Nat) + (Int.toNat x.fst.Ring))).x.s.nil (V.cons (V.A7 175 3 (x.snd.snd.rings.get ((0 : Nat) + (Int.toNat x.fst.Ring))).x.s.x.l.nil (x.snd.snd.rings.get ((0 : Nat) + (Int.toNat x.fst.Ring))).x.s.x.l.n (fun i2 => (V.cons (V.int IntKind.u64 ((x.snd.snd.rings.get ((0 : Nat) + (Int.toNat x.fst.Ring))).x.s.x.l.get i2).AP) (V.cons (V.int IntKind.u64 ((x.snd.snd.rings.get ((0 : Nat) + (Int.toNat x.fst.Ring))).x.s.x.l.get i2).Value) (V.cons (V.int IntKind.i64 ((x.snd.snd.rings.get ((0 : Nat) + (Int.toNat x.fst.Ring))).x.s.x.l.get i2).Left) V.unit))))) (V.cons (V.int IntKind.i64 (x.snd.snd.rings.get ((0 : Nat) + (Int.toNat x.fst.Ring))).x.s.x.AX) V.unit))) (V.cons (V.int IntKind.u64 (x.snd.snd.rings.get ((0 : Nat) + (Int.toNat x.fst.Ring))).x.most) (V.cons (V.bool (x.snd.snd.rings.get ((0 : Nat) + (Int.toNat x.fst.Ring))).x.closed) V.unit)))))))) <|
 (.need ((true && true) && (Nat.beq x.snd.snd.rings.n x.snd.snd.rings.n)) <|
 (.ret (false, x.snd.snd)))))))
 (.ite (AW x.fst.Kind 2)
 (.call con_f25 (x.fst.AG, (x.snd.snd.rings.get ((0 : Nat) + (Int.toNat x.fst.Ring))).x) fun (y1 : R_f25) =>
 (.need ((true && true) && (((Nat.beq x.snd.snd.rings.n x.snd.snd.rings.n) && (Nat.blt ((0 : Nat) + (Int.toNat x.fst.Ring)) x.snd.snd.rings.n)) && (!(x.snd.snd.rings.get ((0 : Nat) + (Int.toNat x.fst.Ring))).nil))) <|
 (.side (((fun v : Nat → V => v = v) (fun i2 => (cond (Nat.beq i2 ((0 : Nat) + (Int.toNat x.fst.Ring))) (V.ptr (Id.loc 15 0) List.nil) (V.Aj (x.snd.snd.rings.get i2).nil (V.cons (V.cons (V.int IntKind.u64 (x.snd.snd.rings.get i2).x.AA.tail) (V.cons (V.A7 36 1 (x.snd.snd.rings.get i2).x.AA.AD.nil (x.snd.snd.rings.get i2).x.AA.AD.n (fun i3 => (V.int IntKind.u64 ((x.snd.snd.rings.get i2).x.AA.AD.get i3)))) V.unit)) (V.cons (V.Aj (x.snd.snd.rings.get i2).x.s.nil (V.cons (V.A7 175 3 (x.snd.snd.rings.get i2).x.s.x.l.nil (x.snd.snd.rings.get i2).x.s.x.l.n (fun i3 => (V.cons (V.int IntKind.u64 ((x.snd.snd.rings.get i2).x.s.x.l.get i3).AP) (V.cons (V.int IntKind.u64 ((x.snd.snd.rings.get i2).x.s.x.l.get i3).Value) (V.cons (V.int IntKind.i64 ((x.snd.snd.rings.get i2).x.s.x.l.get i3).Left) V.unit))))) (V.cons (V.int IntKind.i64 (x.snd.snd.rings.get i2).x.s.x.AX) V.unit))) (V.cons (V.int IntKind.u64 (x.snd.snd.rings.get i2).x.most) (V.cons (V.bool (x.snd.snd.rings.get i2).x.closed) V.unit)))))))) ∧ (((fun v : V => v = v) (V.cons (V.cons (V.int IntKind.u64 (x.snd.snd.rings.get ((0 : Nat) + (Int.toNat x.fst.Ring))).x.AA.tail) (V.cons (V.A7 36 1 (x.snd.snd.rings.get ((0 : Nat) + (Int.toNat x.fst.Ring))).x.AA.AD.nil (x.snd.snd.rings.get ((0 : Nat) + (Int.toNat x.fst.Ring))).x.AA.AD.n (fun i2 => (V.int IntKind.u64 ((x.snd.snd.rings.get ((0 : Nat) + (Int.toNat x.fst.Ring))).x.AA.AD.get i2)))) V.unit)) (V.cons (V.Aj (x.snd.snd.rings.get ((0 : Nat) + (Int.toNat x.fst.Ring))).x.s.nil (V.cons (V.A7 175 3 (x.snd.snd.rings.get ((0 : Nat) + (Int.toNat x.fst.Ring))).x.s.x.l.nil (x.snd.snd.rings.get ((0 : Nat) + (Int.toNat x.fst.Ring))).x.s.x.l.n (fun i2 => (V.cons (V.int IntKind.u64 ((x.snd.snd.rings.get ((0 : Nat) + (Int.toNat x.fst.Ring))).x.s.x.l.get i2).AP) (V.cons (V.int IntKind.u64 ((x.snd.snd.rings.get ((0 : Nat) + (Int.toNat x.fst.Ring))).x.s.x.l.get i2).Value) (V.cons (V.int IntKind.i64 ((x.snd.snd.rings.get ((0 : Nat) + (Int.toNat x.fst.Ring))).x.s.x.l.get i2).Left) V.unit))))) (V.cons (V.int IntKind.i64 (x.snd.snd.rings.get ((0 : Nat) + (Int.toNat x.fst.Ring))).x.s.x.AX) V.unit))) (V.cons (V.int IntKind.u64 (x.snd.snd.rings.get ((0 : Nat) + (Int.toNat x.fst.Ring))).x.most) (V.cons (V.bool (x.snd.snd.rings.get ((0 : Nat) + (Int.toNat x.fst.Ring))).x.closed) V.unit))))) ∧ ((fun v : V => v = v) (V.Aj (x.snd.snd.rings.get ((0 : Nat) + (Int.toNat x.fst.Ring))).nil (V.cons (V.cons (V.int IntKind.u64 (x.snd.snd.rings.get ((0 : Nat) + (Int.toNat x.fst.Ring))).x.AA.tail) (V.cons (V.A7 36 1 (x.snd.snd.rings.get ((0 : Nat) + (Int.toNat x.fst.Ring))).x.AA.AD.nil (x.snd.snd.rings.get ((0 : Nat) + (Int.toNat x.fst.Ring))).x.AA.AD.n (fun i2 => (V.int IntKind.u64 ((x.snd.snd.rings.get ((0 : Nat) + (Int.toNat x.fst.Ring))).x.AA.AD.get i2)))) V.unit)) (V.cons (V.Aj (x.snd.snd.rings.get ((0 : Nat) + (Int.toNat x.fst.Ring))).x.s.nil (V.cons (V.A7 175 3 (x.snd.snd.rings.get ((0 : Nat) + (Int.toNat x.fst.Ring))).x.s.x.l.nil (x.snd.snd.rings.get ((0 : Nat) + (Int.toNat x.fst.Ring))).x.s.x.l.n (fun i2 => (V.cons (V.int IntKind.u64 ((x.snd.snd.rings.get ((0 : Nat) + (Int.toNat x.fst.Ring))).x.s.x.l.get i2).AP) (V.cons (V.int IntKind.u64 ((x.snd.snd.rings.get ((0 : Nat) + (Int.toNat x.fst.Ring))).x.s.x.l.get i2).Value) (V.cons (V.int IntKind.i64 ((x.snd.snd.rings.get ((0 : Nat) + (Int.toNat x.fst.Ring))).x.s.x.l.get i2).Left) V.unit))))) (V.cons (V.int IntKind.i64 (x.snd.snd.rings.get ((0 : Nat) + (Int.toNat x.fst.Ring))).x.s.x.AX) V.unit))) (V.cons (V.int IntKind.u64 (x.snd.snd.rings.get ((0 : Nat) + (Int.toNat x.fst.Ring))).x.most) (V.cons (V.bool (x.snd.snd.rings.get ((0 : Nat) + (Int.toNat x.fst.Ring))).x.closed) V.unit)))))))) <|
 (.need ((true && true) && (Nat.beq x.snd.snd.rings.n x.snd.snd.rings.n)) <|
 (.ret (y1, x.snd.snd))))))
 (.ite (AW x.fst.Kind 3)
 (.call con_f18 (x.snd.fst.Reader, (x.snd.snd.rings.get ((0 : Nat) + (Int.toNat x.fst.Ring))).x) fun (y1 : R_f18) =>
 (.ite (!y1)
 (.call con_fr (x.snd.fst.Reader, (x.snd.snd.rings.get ((0 : Nat) + (Int.toNat x.fst.Ring))).x) fun (y2 : R_fr) =>
 (.need ((true && true) && (((Nat.beq x.snd.snd.rings.n x.snd.snd.rings.n) && (Nat.blt ((0 : Nat) + (Int.toNat x.fst.Ring)) x.snd.snd.rings.n)) && (!(x.snd.snd.rings.get ((0 : Nat) + (Int.toNat x.fst.Ring))).nil))) <|
 (.side (((fun v : Nat → V => v = v) (fun i3 => (cond (Nat.beq i3 ((0 : Nat) + (Int.toNat x.fst.Ring))) (V.ptr (Id.loc 15 0) List.nil) (V.Aj (x.snd.snd.rings.get i3).nil (V.cons (V.cons (V.int IntKind.u64 (x.snd.snd.rings.get i3).x.AA.tail) (V.cons (V.A7 36 1 (x.snd.snd.rings.get i3).x.AA.AD.nil (x.snd.snd.rings.get i3).x.AA.AD.n (fun i4 => (V.int IntKind.u64 ((x.snd.snd.rings.get i3).x.AA.AD.get i4)))) V.unit)) (V.cons (V.Aj (x.snd.snd.rings.get i3).x.s.nil (V.cons (V.A7 175 3 (x.snd.snd.rings.get i3).x.s.x.l.nil (x.snd.snd.rings.get i3).x.s.x.l.n (fun i4 => (V.cons (V.int IntKind.u64 ((x.snd.snd.rings.get i3).x.s.x.l.get i4).AP) (V.cons (V.int IntKind.u64 ((x.snd.snd.rings.get i3).x.s.x.l.get i4).Value) (V.cons (V.int IntKind.i64 ((x.snd.snd.rings.get i3).x.s.x.l.get i4).Left) V.unit))))) (V.cons (V.int IntKind.i64 (x.snd.snd.rings.get i3).x.s.x.AX) V.unit))) (V.cons (V.int IntKind.u64 (x.snd.snd.rings.get i3).x.most) (V.cons (V.bool (x.snd.snd.rings.get i3).x.closed) V.unit)))))))) ∧ (((fun v : V => v = v) (V.cons (V.cons (V.int IntKind.u64 (x.snd.snd.rings.get ((0 : Nat) + (Int.toNat x.fst.Ring))).x.AA.tail) (V.cons (V.A7 36 1 (x.snd.snd.rings.get ((0 : Nat) + (Int.toNat x.fst.Ring))).x.AA.AD.nil (x.snd.snd.rings.get ((0 : Nat) + (Int.toNat x.fst.Ring))).x.AA.AD.n (fun i3 => (V.int IntKind.u64 ((x.snd.snd.rings.get ((0 : Nat) + (Int.toNat x.fst.Ring))).x.AA.AD.get i3)))) V.unit)) (V.cons (V.Aj (x.snd.snd.rings.get ((0 : Nat) + (Int.toNat x.fst.Ring))).x.s.nil (V.cons (V.A7 175 3 (x.snd.snd.rings.get ((0 : Nat) + (Int.toNat x.fst.Ring))).x.s.x.l.nil (x.snd.snd.rings.get ((0 : Nat) + (Int.toNat x.fst.Ring))).x.s.x.l.n (fun i3 => (V.cons (V.int IntKind.u64 ((x.snd.snd.rings.get ((0 : Nat) + (Int.toNat x.fst.Ring))).x.s.x.l.get i3).AP) (V.cons (V.int IntKind.u64 ((x.snd.snd.rings.get ((0 : Nat) + (Int.toNat x.fst.Ring))).x.s.x.l.get i3).Value) (V.cons (V.int IntKind.i64 ((x.snd.snd.rings.get ((0 : Nat) + (Int.toNat x.fst.Ring))).x.s.x.l.get i3).Left) V.unit))))) (V.cons (V.int IntKind.i64 (x.snd.snd.rings.get ((0 : Nat) + (Int.toNat x.fst.Ring))).x.s.x.AX) V.unit))) (V.cons (V.int IntKind.u64 (x.snd.snd.rings.get ((0 : Nat) + (Int.toNat x.fst.Ring))).x.most) (V.cons (V.bool (x.snd.snd.rings.get ((0 : Nat) + (Int.toNat x.fst.Ring))).x.closed) V.unit))))) ∧ ((fun v : V => v = v) (V.Aj (x.snd.snd.rings.get ((0 : Nat) + (Int.toNat x.fst.Ring))).nil (V.cons (V.cons (V.int IntKind.u64 (x.snd.snd.rings.get ((0 : Nat) + (Int.toNat x.fst.Ring))).x.AA.tail) (V.cons (V.A7 36 1 (x.snd.snd.rings.get ((0 : Nat) + (Int.toNat x.fst.Ring))).x.AA.AD.nil (x.snd.snd.rings.get ((0 : Nat) + (Int.toNat x.fst.Ring))).x.AA.AD.n (fun i3 => (V.int IntKind.u64 ((x.snd.snd.rings.get ((0 : Nat) + (Int.toNat x.fst.Ring))).x.AA.AD.get i3)))) V.unit)) (V.cons (V.Aj (x.snd.snd.rings.get ((0 : Nat) + (Int.toNat x.fst.Ring))).x.s.nil (V.cons (V.A7 175 3 (x.snd.snd.rings.get ((0 : Nat) + (Int.toNat x.fst.Ring))).x.s.x.l.nil (x.snd.snd.rings.get ((0 : Nat) + (Int.toNat x.fst.Ring))).x.s.x.l.n (fun i3 => (V.cons (V.int IntKind.u64 ((x.snd.snd.rings.get ((0 : Nat) + (Int.toNat x.fst.Ring))).x.s.x.l.get i3).AP) (V.cons (V.int IntKind.u64 ((x.snd.snd.rings.get ((0 : Nat) + (Int.toNat x.fst.Ring))).x.s.x.l.get i3).Value) (V.cons (V.int IntKind.i64 ((x.snd.snd.rings.get ((0 : Nat) + (Int.toNat x.fst.Ring))).x.s.x.l.get i3).Left) V.unit))))) (V.cons (V.int IntKind.i64 (x.snd.snd.rings.get ((0 : Nat) + (Int.toNat x.fst.Ring))).x.s.x.AX) V.unit))) (V.cons (V.int IntKind.u64 (x.snd.snd.rings.get ((0 : Nat) + (Int.toNat x.fst.Ring))).x.most) (V.cons (V.bool (x.snd.snd.rings.get ((0 : Nat) + (Int.toNat x.fst.Ring))).x.closed) V.unit)))))))) <|
 (.need ((true && true) && (Nat.beq x.snd.snd.rings.n x.snd.snd.rings.n)) <|
 (.ret ((AW x.fst.AG y2), x.snd.snd))))))
 (.need ((true && true) && (((Nat.beq x.snd.snd.rings.n x.snd.snd.rings.n) && (Nat.blt ((0 : Nat) + (Int.toNat x.fst.Ring)) x.snd.snd.rings.n)) && (!(x.snd.snd.rings.get ((0 : Nat) + (Int.toNat x.fst.Ring))).nil))) <|
 (.side (((fun v : Nat → V => v = v) (fun i2 => (cond (Nat.beq i2 ((0 : Nat) + (Int.toNat x.fst.Ring))) (V.ptr (Id.loc 15 0) List.nil) (V.Aj (x.snd.snd.rings.get i2).nil (V.cons (V.cons (V.int IntKind.u64 (x.snd.snd.rings.get i2).x.AA.tail) (V.cons (V.A7 36 1 (x.snd.snd.rings.get i2).x.AA.AD.nil (x.snd.snd.rings.get i2).x.AA.AD.n (fun i3 => (V.int IntKind.u64 ((x.snd.snd.rings.get i2).x.AA.AD.get i3)))) V.unit)) (V.cons (V.Aj (x.snd.snd.rings.get i2).x.s.nil (V.cons (V.A7 175 3 (x.snd.snd.rings.get i2).x.s.x.l.nil (x.snd.snd.rings.get i2).x.s.x.l.n (fun i3 => (V.cons (V.int IntKind.u64 ((x.snd.snd.rings.get i2).x.s.x.l.get i3).AP) (V.cons (V.int IntKind.u64 ((x.snd.snd.rings.get i2).x.s.x.l.get i3).Value) (V.cons (V.int IntKind.i64 ((x.snd.snd.rings.get i2).x.s.x.l.get i3).Left) V.unit))))) (V.cons (V.int IntKind.i64 (x.snd.snd.rings.get i2).x.s.x.AX) V.unit))) (V.cons (V.int IntKind.u64 (x.snd.snd.rings.get i2).x.most) (V.cons (V.bool (x.snd.snd.rings.get i2).x.closed) V.unit)))))))) ∧ (((fun v : V => v = v) (V.cons (V.cons (V.int IntKind.u64 (x.snd.snd.rings.get ((0 : Nat) + (Int.toNat x.fst.Ring))).x.AA.tail) (V.cons (V.A7 36 1 (x.snd.snd.rings.get ((0 : Nat) + (Int.toNat x.fst.Ring))).x.AA.AD.nil (x.snd.snd.rings.get ((0 : Nat) + (Int.toNat x.fst.Ring))).x.AA.AD.n (fun i2 => (V.int IntKind.u64 ((x.snd.snd.rings.get ((0 : Nat) + (Int.toNat x.fst.Ring))).x.AA.AD.get i2)))) V.unit)) (V.cons (V.Aj (x.snd.snd.rings.get ((0 : Nat) + (Int.toNat x.fst.Ring))).x.s.nil (V.cons (V.A7 175 3 (x.snd.snd.rings.get ((0 : Nat) + (Int.toNat x.fst.Ring))).x.s.x.l.nil (x.snd.snd.rings.get ((0 : Nat) + (Int.toNat x.fst.Ring))).x.s.x.l.n (fun i2 => (V.cons (V.int IntKind.u64 ((x.snd.snd.rings.get ((0 : Nat) + (Int.toNat x.fst.Ring))).x.s.x.l.get i2).AP) (V.cons (V.int IntKind.u64 ((x.snd.snd.rings.get ((0 : Nat) + (Int.toNat x.fst.Ring))).x.s.x.l.get i2).Value) (V.cons (V.int IntKind.i64 ((x.snd.snd.rings.get ((0 : Nat) + (Int.toNat x.fst.Ring))).x.s.x.l.get i2).Left) V.unit))))) (V.cons (V.int IntKind.i64 (x.snd.snd.rings.get ((0 : Nat) + (Int.toNat x.fst.Ring))).x.s.x.AX) V.unit))) (V.cons (V.int IntKind.u64 (x.snd.snd.rings.get ((0 : Nat) + (Int.toNat x.fst.Ring))).x.most) (V.cons (V.bool (x.snd.snd.rings.get ((0 : Nat) + (Int.toNat x.fst.Ring))).x.closed) V.unit))))) ∧ ((fun v : V => v = v) (V.Aj (x.snd.snd.rings.get ((0 : Nat) + (Int.toNat x.fst.Ring))).nil (V.cons (V.cons (V.int IntKind.u64 (x.snd.snd.rings.get ((0 : Nat) + (Int.toNat x.fst.Ring))).x.AA.tail) (V.cons (V.A7 36 1 (x.snd.snd.rings.get ((0 : Nat) + (Int.toNat x.fst.Ring))).x.AA.AD.nil (x.snd.snd.rings.get ((0 : Nat) + (Int.toNat x.fst.Ring))).x.AA.AD.n (fun i2 => (V.int IntKind.u64 ((x.snd.snd.rings.get ((0 : Nat) + (Int.toNat x.fst.Ring))).x.AA.AD.get i2)))) V.unit)) (V.cons (V.Aj (x.snd.snd.rings.get ((0 : Nat) + (Int.toNat x.fst.Ring))).x.s.nil (V.cons (V.A7 175 3 (x.snd.snd.rings.get ((0 : Nat) + (Int.toNat x.fst.Ring))).x.s.x.l.nil (x.snd.snd.rings.get ((0 : Nat) + (Int.toNat x.fst.Ring))).x.s.x.l.n (fun i2 => (V.cons (V.int IntKind.u64 ((x.snd.snd.rings.get ((0 : Nat) + (Int.toNat x.fst.Ring))).x.s.x.l.get i2).AP) (V.cons (V.int IntKind.u64 ((x.snd.snd.rings.get ((0 : Nat) + (Int.toNat x.fst.Ring))).x.s.x.l.get i2).Value) (V.cons (V.int IntKind.i64 ((x.snd.snd.rings.get ((0 : Nat) + (Int.toNat x.fst.Ring))).x.s.x.l.get i2).Left) V.unit))))) (V.cons (V.int IntKind.i64 (x.snd.snd.rings.get ((0 : Nat) + (Int.toNat x.fst.Ring))).x.s.x.AX) V.unit))) (V.cons (V.int IntKind.u64 (x.snd.snd.rings.get ((0 : Nat) + (Int.toNat x.fst.Ring))).x.most) (V.cons (V.bool (x.snd.snd.rings.get ((0 : Nat) + (Int.toNat x.fst.Ring))).x.closed) V.unit)))))))) <|
 (.need ((true && true) && (Nat.beq x.snd.snd.rings.n x.snd.snd.rings.n)) <|
 (.ret (false, x.snd.snd)))))))
 (.ite (AW x.fst.Kind 4)
 (.call con_f2e (x.snd.fst.Reader, (x.fst.AG, (x.snd.snd.rings.get ((0 : Nat) + (Int.toNat x.fst.Ring))).x)) fun (y1 : R_f2e) =>
 (.need ((true && true) && (((Nat.beq x.snd.snd.rings.n x.snd.snd.rings.n) && (Nat.blt ((0 : Nat) + (Int.toNat x.fst.Ring)) x.snd.snd.rings.n)) && (!(x.snd.snd.rings.get ((0 : Nat) + (Int.toNat x.fst.Ring))).nil))) <|
 (.side (((fun v : Nat → V => v = v) (fun i2 => (cond (Nat.beq i2 ((0 : Nat) + (Int.toNat x.fst.Ring))) (V.ptr (Id.loc 15 0) List.nil) (V.Aj (x.snd.snd.rings.get i2).nil (V.cons (V.cons (V.int IntKind.u64 (x.snd.snd.rings.get i2).x.AA.tail) (V.cons (V.A7 36 1 (x.snd.snd.rings.get i2).x.AA.AD.nil (x.snd.snd.rings.get i2).x.AA.AD.n (fun i3 => (V.int IntKind.u64 ((x.snd.snd.rings.get i2).x.AA.AD.get i3)))) V.unit)) (V.cons (V.Aj (x.snd.snd.rings.get i2).x.s.nil (V.cons (V.A7 175 3 (x.snd.snd.rings.get i2).x.s.x.l.nil (x.snd.snd.rings.get i2).x.s.x.l.n (fun i3 => (V.cons (V.int IntKind.u64 ((x.snd.snd.rings.get i2).x.s.x.l.get i3).AP) (V.cons (V.int IntKind.u64 ((x.snd.snd.rings.get i2).x.s.x.l.get i3).Value) (V.cons (V.int IntKind.i64 ((x.snd.snd.rings.get i2).x.s.x.l.get i3).Left) V.unit))))) (V.cons (V.int IntKind.i64 (x.snd.snd.rings.get i2).x.s.x.AX) V.unit))) (V.cons (V.int IntKind.u64 (x.snd.snd.rings.get i2).x.most) (V.cons (V.bool (x.snd.snd.rings.get i2).x.closed) V.unit)))))))) ∧ (((fun v : V => v = v) (V.cons (V.cons (V.int IntKind.u64 (x.snd.snd.rings.get ((0 : Nat) + (Int.toNat x.fst.Ring))).x.AA.tail) (V.cons (V.A7 36 1 (x.snd.snd.rings.get ((0 : Nat) + (Int.toNat x.fst.Ring))).x.AA.AD.nil (x.snd.snd.rings.get ((0 : Nat) + (Int.toNat x.fst.Ring))).x.AA.AD.n (fun i2 => (V.int IntKind.u64 ((x.snd.snd.rings.get ((0 : Nat) + (Int.toNat x.fst.Ring))).x.AA.AD.get i2)))) V.unit)) (V.cons (V.Aj (x.snd.snd.rings.get ((0 : Nat) + (Int.toNat x.fst.Ring))).x.s.nil (V.cons (V.A7 175 3 (x.snd.snd.rings.get ((0 : Nat) + (Int.toNat x.fst.Ring))).x.s.x.l.nil (x.snd.snd.rings.get ((0 : Nat) + (Int.toNat x.fst.Ring))).x.s.x.l.n (fun i2 => (V.cons (V.int IntKind.u64 ((x.snd.snd.rings.get ((0 : Nat) + (Int.toNat x.fst.Ring))).x.s.x.l.get i2).AP) (V.cons (V.int IntKind.u64 ((x.snd.snd.rings.get ((0 : Nat) + (Int.toNat x.fst.Ring))).x.s.x.l.get i2).Value) (V.cons (V.int IntKind.i64 ((x.snd.snd.rings.get ((0 : Nat) + (Int.toNat x.fst.Ring))).x.s.x.l.get i2).Left) V.unit))))) (V.cons (V.int IntKind.i64 (x.snd.snd.rings.get ((0 : Nat) + (Int.toNat x.fst.Ring))).x.s.x.AX) V.unit))) (V.cons (V.int IntKind.u64 (x.snd.snd.rings.get ((0 : Nat) + (Int.toNat x.fst.Ring))).x.most) (V.cons (V.bool (x.snd.snd.rings.get ((0 : Nat) + (Int.toNat x.fst.Ring))).x.closed) V.unit))))) ∧ ((fun v : V => v = v) (V.Aj (x.snd.snd.rings.get ((0 : Nat) + (Int.toNat x.fst.Ring))).nil (V.cons (V.cons (V.int IntKind.u64 (x.snd.snd.rings.get ((0 : Nat) + (Int.toNat x.fst.Ring))).x.AA.tail) (V.cons (V.A7 36 1 (x.snd.snd.rings.get ((0 : Nat) + (Int.toNat x.fst.Ring))).x.AA.AD.nil (x.snd.snd.rings.get ((0 : Nat) + (Int.toNat x.fst.Ring))).x.AA.AD.n (fun i2 => (V.int IntKind.u64 ((x.snd.snd.rings.get ((0 : Nat) + (Int.toNat x.fst.Ring))).x.AA.AD.get i2)))) V.unit)) (V.cons (V.Aj (x.snd.snd.rings.get ((0 : Nat) + (Int.toNat x.fst.Ring))).x.s.nil (V.cons (V.A7 175 3 (x.snd.snd.rings.get ((0 : Nat) + (Int.toNat x.fst.Ring))).x.s.x.l.nil (x.snd.snd.rings.get ((0 : Nat) + (Int.toNat x.fst.Ring))).x.s.x.l.n (fun i2 => (V.cons (V.int IntKind.u64 ((x.snd.snd.rings.get ((0 : Nat) + (Int.toNat x.fst.Ring))).x.s.x.l.get i2).AP) (V.cons (V.int IntKind.u64 ((x.snd.snd.rings.get ((0 : Nat) + (Int.toNat x.fst.Ring))).x.s.x.l.get i2).Value) (V.cons (V.int IntKind.i64 ((x.snd.snd.rings.get ((0 : Nat) + (Int.toNat x.fst.Ring))).x.s.x.l.get i2).Left) V.unit))))) (V.cons (V.int IntKind.i64 (x.snd.snd.rings.get ((0 : Nat) + (Int.toNat x.fst.Ring))).x.s.x.AX) V.unit))) (V.cons (V.int IntKind.u64 (x.snd.snd.rings.get ((0 : Nat) + (Int.toNat x.fst.Ring))).x.most) (V.cons (V.bool (x.snd.snd.rings.get ((0 : Nat) + (Int.toNat x.fst.Ring))).x.closed) V.unit)))))))) <|
 (.need ((true && true) && (Nat.beq x.snd.snd.rings.n x.snd.snd.rings.n)) <|
 (.ret (y1, x.snd.snd))))))
 (.call con_f1x (x.snd.snd.rings.get ((0 : Nat) + (Int.toNat x.fst.Ring))).x fun (y1 : R_f1x) =>
 (.need ((true && true) && (((Nat.beq x.snd.snd.rings.n x.snd.snd.rings.n) && (Nat.blt ((0 : Nat) + (Int.toNat x.fst.Ring)) x.snd.snd.rings.n)) && (!(x.snd.snd.rings.get ((0 : Nat) + (Int.toNat x.fst.Ring))).nil))) <|
 (.side (((fun v : Nat → V => v = v) (fun i2 => (cond (Nat.beq i2 ((0 : Nat) + (Int.toNat x.fst.Ring))) (V.ptr (Id.loc 15 0) List.nil) (V.Aj (x.snd.snd.rings.get i2).nil (V.cons (V.cons (V.int IntKind.u64 (x.snd.snd.rings.get i2).x.AA.tail) (V.cons (V.A7 36 1 (x.snd.snd.rings.get i2).x.AA.AD.nil (x.snd.snd.rings.get i2).x.AA.AD.n (fun i3 => (V.int IntKind.u64 ((x.snd.snd.rings.get i2).x.AA.AD.get i3)))) V.unit)) (V.cons (V.Aj (x.snd.snd.rings.get i2).x.s.nil (V.cons (V.A7 175 3 (x.snd.snd.rings.get i2).x.s.x.l.nil (x.snd.snd.rings.get i2).x.s.x.l.n (fun i3 => (V.cons (V.int IntKind.u64 ((x.snd.snd.rings.get i2).x.s.x.l.get i3).AP) (V.cons (V.int IntKind.u64 ((x.snd.snd.rings.get i2).x.s.x.l.get i3).Value) (V.cons (V.int IntKind.i64 ((x.snd.snd.rings.get i2).x.s.x.l.get i3).Left) V.unit))))) (V.cons (V.int IntKind.i64 (x.snd.snd.rings.get i2).x.s.x.AX) V.unit))) (V.cons (V.int IntKind.u64 (x.snd.snd.rings.get i2).x.most) (V.cons (V.bool (x.snd.snd.rings.get i2).x.closed) V.unit)))))))) ∧ (((fun v : V => v = v) (V.cons (V.cons (V.int IntKind.u64 (x.snd.snd.rings.get ((0 : Nat) + (Int.toNat x.fst.Ring))).x.AA.tail) (V.cons (V.A7 36 1 (x.snd.snd.rings.get ((0 : Nat) + (Int.toNat x.fst.Ring))).x.AA.AD.nil (x.snd.snd.rings.get ((0 : Nat) + (Int.toNat x.fst.Ring))).x.AA.AD.n (fun i2 => (V.int IntKind.u64 ((x.snd.snd.rings.get ((0 : Nat) + (Int.toNat x.fst.Ring))).x.AA.AD.get i2)))) V.unit)) (V.cons (V.Aj (x.snd.snd.rings.get ((0 : Nat) + (Int.toNat x.fst.Ring))).x.s.nil (V.cons (V.A7 175 3 (x.snd.snd.rings.get ((0 : Nat) + (Int.toNat x.fst.Ring))).x.s.x.l.nil (x.snd.snd.rings.get ((0 : Nat) + (Int.toNat x.fst.Ring))).x.s.x.l.n (fun i2 => (V.cons (V.int IntKind.u64 ((x.snd.snd.rings.get ((0 : Nat) + (Int.toNat x.fst.Ring))).x.s.x.l.get i2).AP) (V.cons (V.int IntKind.u64 ((x.snd.snd.rings.get ((0 : Nat) + (Int.toNat x.fst.Ring))).x.s.x.l.get i2).Value) (V.cons (V.int IntKind.i64 ((x.snd.snd.rings.get ((0 : Nat) + (Int.toNat x.fst.Ring))).x.s.x.l.get i2).Left) V.unit))))) (V.cons (V.int IntKind.i64 (x.snd.snd.rings.get ((0 : Nat) + (Int.toNat x.fst.Ring))).x.s.x.AX) V.unit))) (V.cons (V.int IntKind.u64 (x.snd.snd.rings.get ((0 : Nat) + (Int.toNat x.fst.Ring))).x.most) (V.cons (V.bool (x.snd.snd.rings.get ((0 : Nat) + (Int.toNat x.fst.Ring))).x.closed) V.unit))))) ∧ ((fun v : V => v = v) (V.Aj (x.snd.snd.rings.get ((0 : Nat) + (Int.toNat x.fst.Ring))).nil (V.cons (V.cons (V.int IntKind.u64 (x.snd.snd.rings.get ((0 : Nat) + (Int.toNat x.fst.Ring))).x.AA.tail) (V.cons (V.A7 36 1 (x.snd.snd.rings.get ((0 : Nat) + (Int.toNat x.fst.Ring))).x.AA.AD.nil (x.snd.snd.rings.get ((0 : Nat) + (Int.toNat x.fst.Ring))).x.AA.AD.n (fun i2 => (V.int IntKind.u64 ((x.snd.snd.rings.get ((0 : Nat) + (Int.toNat x.fst.Ring))).x.AA.AD.get i2)))) V.unit)) (V.cons (V.Aj (x.snd.snd.rings.get ((0 : Nat) + (Int.toNat x.fst.Ring))).x.s.nil (V.cons (V.A7 175 3 (x.snd.snd.rings.get ((0 : Nat) + (Int.toNat x.fst.Ring))).x.s.x.l.nil (x.snd.snd.rings.get ((0 : Nat) + (Int.toNat x.fst.Ring))).x.s.x.l.n (fun i2 => (V.cons (V.int IntKind.u64 ((x.snd.snd.rings.get ((0 : Nat) + (Int.toNat x.fst.Ring))).x.s.x.l.get i2).AP) (V.cons (V.int IntKind.u64 ((x.snd.snd.rings.get ((0 : Nat) + (Int.toNat x.fst.Ring))).x.s.x.l.get i2).Value) (V.cons (V.int IntKind.i64 ((x.snd.snd.rings.get ((0 : Nat) + (Int.toNat x.fst.Ring))).x.s.x.l.get i2).Left) V.unit))))) (V.cons (V.int IntKind.i64 (x.snd.snd.rings.get ((0 : Nat) + (Int.toNat x.fst.Ring))).x.s.x.AX) V.unit))) (V.cons (V.int IntKind.u64 (x.snd.snd.rings.get ((0 : Nat) + (Int.toNat x.fst.Ring))).x.most) (V.cons (V.bool (x.snd.snd.rings.get ((0 : Nat) + (Int.toNat x.fst.Ring))).x.closed) V.unit)))))))) <|
 (.need ((true && true) && (Nat.beq x.snd.snd.rings.n x.snd.snd.rings.n)) <|
 (.ret ((AW x.fst.AG y1), x.snd.snd))))))))))))
theorem sd_f1g (x : X_f1g) : (tt_f1g x).AJ :=
 (TT.sN (TT.sN (TT.sI (TT.sC fun _ => (TT.sI (TT.sC fun _ => (TT.sN (TT.sS ⟨rfl, ⟨rfl, rfl⟩⟩ (TT.sN TT.sR)))) (TT.sN (TT.sS ⟨rfl, ⟨rfl, rfl⟩⟩ (TT.sN TT.sR))))) (TT.sI (TT.sC fun _ => (TT.sN (TT.sS ⟨rfl, ⟨rfl, rfl⟩⟩ (TT.sN TT.sR)))) (TT.sI (TT.sC fun _ => (TT.sI (TT.sC fun _ => (TT.sN (TT.sS ⟨rfl, ⟨rfl, rfl⟩⟩ (TT.sN TT.sR)))) (TT.sN (TT.sS ⟨rfl, ⟨rfl, rfl⟩⟩ (TT.sN TT.sR))))) (TT.sI (TT.sC fun _ => (TT.sN (TT.sS ⟨rfl, ⟨rfl, rfl⟩⟩ (TT.sN TT.sR)))) (TT.sC fun _ => (TT.sN (TT.sS ⟨rfl, ⟨rfl, rfl⟩⟩ (TT.sN TT.sR))))))))))
theorem roT_f1g (x : X_f1g) : TT.Ro p_f1g (w_f1g x) (tt_f1g x) :=
 (TT.rN (TT.rN (TT.rI (TT.rC fun _ => (TT.rI (TT.rC fun _ => (TT.rN (TT.rS (TT.rN (TT.rR rfl))))) (TT.rN (TT.rS (TT.rN (TT.rR rfl)))))) (TT.rI (TT.rC fun _ => (TT.rN (TT.rS (TT.rN (TT.rR rfl))))) (TT.rI (TT.rC fun _ => (TT.rI (TT.rC fun _ => (TT.rN (TT.rS (TT.rN (TT.rR rfl))))) (TT.rN (TT.rS (TT.rN (TT.rR rfl)))))) (TT.rI (TT.rC fun _ => (TT.rN (TT.rS (TT.rN (TT.rR rfl))))) (TT.rC fun _ => (TT.rN (TT.rS (TT.rN (TT.rR rfl)))))))))))
def D_f1g : AU X_f1g R_f1g := .ro (.of tt_f1g) (fun y => (y.1)) (fun y x => (y, x.2.2)) fun x y h => congrArg (fun o => (y.1, o)) (roT_f1g x y h)
def con_f1g : BC Tryz.prog :=
 DT 116 J_f1g S_f1g (.of tt_f1g) D_f1g (fun y x => (y, x.2.2)) (fun y => V.bool y) 3 1 [.any, .any, .any] (lk mxk lbn sd_f1g) (fun x => ⟨(nu_e_TFa : ∀ y, (e_TFa y).Ch) (x.2.2), trivial⟩)
abbrev X_f2w : Type := TEv
abbrev R_f2w : Type := Bool
def J_f2w : BH Tryz.prog :=
 BN Tryz.prog Tryz.f117 11 [(1, 3)] [] [] [] [.any] [] [] R_f2w [] fun y => [V.bool y]
def S_f2w : AO :=
 Ah Tryz.f117 1 0 X_f2w (fun x => [e_TEv x]) fun l => (d_TEv (at_ l 0))
def tt_f2w (x : X_f2w) : TT Tryz.prog R_f2w :=
 (.ite (Bm x.Kind 4)
 (.ret true)
 (.ret (AW x.Kind 13)))
theorem sd_f2w (x : X_f2w) : (tt_f2w x).AJ :=
 (TT.sI TT.sR TT.sR)
def D_f2w : AU X_f2w R_f2w := .of tt_f2w
def con_f2w : BC Tryz.prog :=
 Br 117 J_f2w S_f2w D_f2w 1 0 [.any] (lk mxk lbn sd_f2w)
abbrev X_fd : Type := TEv × TFa
abbrev R_fd : Type := Bool
abbrev RR_fd : Type := Bool × TFa
abbrev p_fd (y : RR_fd) : TFa := y.2
abbrev w_fd (x : X_fd) : TFa := x.2
def J_fd : BH Tryz.prog :=
 BN Tryz.prog Tryz.f63 103 [(3, 3)] [(8, [.back (.loc 30 0), .back (.loc 26 0)]), (9, [.back (.loc 30 0), .back (.loc 26 0)]), (10, [.back (.loc 47 0), .back (.loc 43 0), .back (.loc 30 0), .back (.loc 26 0)]), (11, [.back (.loc 47 0), .back (.loc 43 0), .back (.loc 30 0), .back (.loc 26 0)]), (12, [.back (.loc 47 0), .back (.loc 43 0), .back (.loc 30 0), .back (.loc 26 0)]), (13, [.back (.loc 47 0), .back (.loc 43 0), .back (.loc 30 0), .back (.loc 26 0)]), (14, [.back (.loc 47 0), .back (.loc 43 0), .back (.loc 30 0), .back (.loc 26 0)]), (15, [.back (.loc 47 0), .back (.loc 43 0), .back (.loc 30 0), .back (.loc 26 0)]), (16, [.back (.loc 90 0), .back (.loc 86 0), .back (.loc 47 0), .back (.loc 43 0), .back (.loc 30 0), .back (.loc 26 0)])] [] [.back (.loc 90 0), .back (.loc 86 0), .back (.loc 47 0), .back (.loc 43 0), .back (.loc 30 0), .back (.loc 26 0)] [.any] [sh_TFa] [con_f1c, con_f17, con_f1g, con_f16, con_f2w, con_f15] RR_fd [] fun y => [V.bool y.1, e_TFa y.2]
def S_fd : AO :=
 Ah Tryz.f63 2 1 X_fd (fun x => [(V.ptr (.par 0) []), e_TEv x.1, e_TFa x.2]) fun l => (d_TEv (at_ l 1), d_TFa (at_ l 2))
structure X_fd_16 where
 Di : TEv
 Ag : TFa
 BD : TAk
def S_fd_16 : AO :=
 Ad Tryz.f63 16 (an [0, 3, 5]) [sh_TFa] [(.loc 5 0, .any)] X_fd_16 (fun x => [(V.ptr (.par 0) []), (CU e_TEv) x.Di, (V.ptr (.loc 5 0) []), e_TFa x.Ag, e_TAk x.BD]) fun l => ⟨(CV d_TEv) (at_ l 1), d_TFa (at_ l 3), d_TAk (at_ l 4)⟩
abbrev w_fd_16 (x : X_fd_16) : TFa := (x.Ag)
def tt_fd_16 (x : X_fd_16) : TT Tryz.prog RR_fd :=
 (.call con_f2w x.Di fun (y1 : R_f2w) =>
 (.ite (!y1)
 (.ret (true, x.Ag))
 (.call con_f1g (x.Di, (x.BD, x.Ag)) fun (y2 : R_f1g) =>
 (.ret (y2, x.Ag)))))
theorem sd_fd_16 (x : X_fd_16) : (tt_fd_16 x).AJ :=
 (TT.sC fun _ => (TT.sI TT.sR (TT.sC fun _ => TT.sR)))
theorem roT_fd_16 (x : X_fd_16) : TT.Ro p_fd (w_fd_16 x) (tt_fd_16 x) :=
 (TT.rC fun _ => (TT.rI (TT.rR rfl) (TT.rC fun _ => (TT.rR rfl))))
def D_fd_16 : AU X_fd_16 RR_fd := .of tt_fd_16
theorem ok_fd_16 : AY J_fd S_fd_16 D_fd_16 :=
 lk mxk lbn sd_fd_16
theorem ro_fd_16 : ∀ x y, D_fd_16.rel x y → p_fd y = w_fd_16 x :=
 roT_fd_16 
def tt_fd (x : X_fd) : TT Tryz.prog RR_fd :=
 (.call con_f16 (x.fst, x.snd) fun (y1 : R_f16) =>
 (.ite (!(AW y1 0))
 (.ret (false, x.snd))
 (.call con_f1c (x.fst.Thread, x.snd) fun (y2 : R_f1c) =>
 (.ite (AW x.fst.Kind 5)
 (.call con_f17 (y2, x.snd) fun (y3 : R_f17) =>
 (.ite y3
 (.need (A3 x.fst.Ring x.snd.rings.n) <|
 (.need (((Nat.beq x.snd.rings.n x.snd.rings.n) && true) && (!(x.snd.rings.get ((0 : Nat) + (Int.toNat x.fst.Ring))).nil)) <|
 (.call con_f15 (x.snd.rings.get ((0 : Nat) + (Int.toNat x.fst.Ring))).x fun (y4 : R_f15) =>
 (.need ((true && true) && (((Nat.beq x.snd.rings.n x.snd.rings.n) && (Nat.blt ((0 : Nat) + (Int.toNat x.fst.Ring)) x.snd.rings.n)) && (!(x.snd.rings.get ((0 : Nat) + (Int.toNat x.fst.Ring))).nil))) <|
 (.side (((fun v : Nat → V => v = v) (fun i5 => (cond (Nat.beq i5 ((0 : Nat) + (Int.toNat x.fst.Ring))) (V.ptr (Id.loc 30 0) List.nil) (V.Aj (x.snd.rings.get i5).nil (V.cons (V.cons (V.int IntKind.u64 (x.snd.rings.get i5).x.AA.tail) (V.cons (V.A7 36 1 (x.snd.rings.get i5).x.AA.AD.nil (x.snd.rings.get i5).x.AA.AD.n (fun i6 => (V.int IntKind.u64 ((x.snd.rings.get i5).x.AA.AD.get i6)))) V.unit)) (V.cons (V.Aj (x.snd.rings.get i5).x.s.nil (V.cons (V.A7 175 3 (x.snd.rings.get i5).x.s.x.l.nil (x.snd.rings.get i5).x.s.x.l.n (fun i6 => (V.cons (V.int IntKind.u64 ((x.snd.rings.get i5).x.s.x.l.get i6).AP) (V.cons (V.int IntKind.u64 ((x.snd.rings.get i5).x.s.x.l.get i6).Value) (V.cons (V.int IntKind.i64 ((x.snd.rings.get i5).x.s.x.l.get i6).Left) V.unit))))) (V.cons (V.int IntKind.i64 (x.snd.rings.get i5).x.s.x.AX) V.unit))) (V.cons (V.int IntKind.u64 (x.snd.rings.get i5).x.most) (V.cons (V.bool (x.snd.rings.get i5).x.closed) V.unit)))))))) ∧ (((fun v : V => v = v) (V.cons (V.cons (V.int IntKind.u64 (x.snd.rings.get ((0 : Nat) + (Int.toNat x.fst.Ring))).x.AA.tail) (V.cons (V.A7 36 1 (x.snd.rings.get ((0 : Nat) + (Int.toNat x.fst.Ring))).x.AA.AD.nil (x.snd.rings.get ((0 : Nat) + (Int.toNat x.fst.Ring))).x.AA.AD.n (fun i5 => (V.int IntKind.u64 ((x.snd.rings.get ((0 : Nat) + (Int.toNat x.fst.Ring))).x.AA.AD.get i5)))) V.unit)) (V.cons (V.Aj (x.snd.rings.get ((0 : Nat) + (Int.toNat x.fst.Ring))).x.s.nil (V.cons (V.A7 175 3 (x.snd.rings.get ((0 : Nat) + (Int.toNat x.fst.Ring))).x.s.x.l.nil (x.snd.rings.get ((0 : Nat) + (Int.toNat x.fst.Ring))).x.s.x.l.n (fun i5 => (V.cons (V.int IntKind.u64 ((x.snd.rings.get ((0 : Nat) + (Int.toNat x.fst.Ring))).x.s.x.l.get i5).AP) (V.cons (V.int IntKind.u64 ((x.snd.rings.get ((0 : Nat) + (Int.toNat x.fst.Ring))).x.s.x.l.get i5).Value) (V.cons (V.int IntKind.i64 ((x.snd.rings.get ((0 : Nat) + (Int.toNat x.fst.Ring))).x.s.x.l.get i5).Left) V.unit))))) (V.cons (V.int IntKind.i64 (x.snd.rings.get ((0 : Nat) + (Int.toNat x.fst.Ring))).x.s.x.AX) V.unit))) (V.cons (V.int IntKind.u64 (x.snd.rings.get ((0 : Nat) + (Int.toNat x.fst.Ring))).x.most) (V.cons (V.bool (x.snd.rings.get ((0 : Nat) + (Int.toNat x.fst.Ring))).x.closed) V.unit))))) ∧ ((fun v : V => v = v) (V.Aj (x.snd.rings.get ((0 : Nat) + (Int.toNat x.fst.Ring))).nil (V.cons (V.cons (V.int IntKind.u64 (x.snd.rings.get ((0 : Nat) + (Int.toNat x.fst.Ring))).x.AA.tail) (V.cons (V.A7 36 1 (x.snd.rings.get ((0 : Nat) + (Int.toNat x.fst.Ring))).x.AA.AD.nil (x.snd.rings.get ((0 : Nat) + (Int.toNat x.fst.Ring))).x.AA.AD.n (fun i5 => (V.int IntKind.u64 ((x.snd.rings.get ((0 : Nat) + (Int.toNat x.fst.Ring))).x.AA.AD.get i5)))) V.unit)) (V.cons (V.Aj (x.snd.rings.get ((0 : Nat) + (Int.toNat x.fst.Ring))).x.s.nil (V.cons (V.A7 175 3 (x.snd.rings.get ((0 : Nat) + (Int.toNat x.fst.Ring))).x.s.x.l.nil (x.snd.rings.get ((0 : Nat) + (Int.toNat x.fst.Ring))).x.s.x.l.n (fun i5 => (V.cons (V.int IntKind.u64 ((x.snd.rings.get ((0 : Nat) + (Int.toNat x.fst.Ring))).x.s.x.l.get i5).AP) (V.cons (V.int IntKind.u64 ((x.snd.rings.get ((0 : Nat) + (Int.toNat x.fst.Ring))).x.s.x.l.get i5).Value) (V.cons (V.int IntKind.i64 ((x.snd.rings.get ((0 : Nat) + (Int.toNat x.fst.Ring))).x.s.x.l.get i5).Left) V.unit))))) (V.cons (V.int IntKind.i64 (x.snd.rings.get ((0 : Nat) + (Int.toNat x.fst.Ring))).x.s.x.AX) V.unit))) (V.cons (V.int IntKind.u64 (x.snd.rings.get ((0 : Nat) + (Int.toNat x.fst.Ring))).x.most) (V.cons (V.bool (x.snd.rings.get ((0 : Nat) + (Int.toNat x.fst.Ring))).x.closed) V.unit)))))))) <|
 (.need ((true && true) && (Nat.beq x.snd.rings.n x.snd.rings.n)) <|
 (.ret ((!y4), x.snd))))))))
 (.ret (false, x.snd))))
 (.ite (AW x.fst.Kind 7)
 (.call con_f17 (y2, x.snd) fun (y3 : R_f17) =>
 (.ite y3
 (.need (A3 x.fst.Ring x.snd.rings.n) <|
 (.need (((Nat.beq x.snd.rings.n x.snd.rings.n) && true) && (!(x.snd.rings.get ((0 : Nat) + (Int.toNat x.fst.Ring))).nil)) <|
 (.call con_f15 (x.snd.rings.get ((0 : Nat) + (Int.toNat x.fst.Ring))).x fun (y4 : R_f15) =>
 (.need ((true && true) && (((Nat.beq x.snd.rings.n x.snd.rings.n) && (Nat.blt ((0 : Nat) + (Int.toNat x.fst.Ring)) x.snd.rings.n)) && (!(x.snd.rings.get ((0 : Nat) + (Int.toNat x.fst.Ring))).nil))) <|
 (.side (((fun v : Nat → V => v = v) (fun i5 => (cond (Nat.beq i5 ((0 : Nat) + (Int.toNat x.fst.Ring))) (V.ptr (Id.loc 30 0) List.nil) (V.Aj (x.snd.rings.get i5).nil (V.cons (V.cons (V.int IntKind.u64 (x.snd.rings.get i5).x.AA.tail) (V.cons (V.A7 36 1 (x.snd.rings.get i5).x.AA.AD.nil (x.snd.rings.get i5).x.AA.AD.n (fun i6 => (V.int IntKind.u64 ((x.snd.rings.get i5).x.AA.AD.get i6)))) V.unit)) (V.cons (V.Aj (x.snd.rings.get i5).x.s.nil (V.cons (V.A7 175 3 (x.snd.rings.get i5).x.s.x.l.nil (x.snd.rings.get i5).x.s.x.l.n (fun i6 => (V.cons (V.int IntKind.u64 ((x.snd.rings.get i5).x.s.x.l.get i6).AP) (V.cons (V.int IntKind.u64 ((x.snd.rings.get i5).x.s.x.l.get i6).Value) (V.cons (V.int IntKind.i64 ((x.snd.rings.get i5).x.s.x.l.get i6).Left) V.unit))))) (V.cons (V.int IntKind.i64 (x.snd.rings.get i5).x.s.x.AX) V.unit))) (V.cons (V.int IntKind.u64 (x.snd.rings.get i5).x.most) (V.cons (V.bool (x.snd.rings.get i5).x.closed) V.unit)))))))) ∧ (((fun v : V => v = v) (V.cons (V.cons (V.int IntKind.u64 (x.snd.rings.get ((0 : Nat) + (Int.toNat x.fst.Ring))).x.AA.tail) (V.cons (V.A7 36 1 (x.snd.rings.get ((0 : Nat) + (Int.toNat x.fst.Ring))).x.AA.AD.nil (x.snd.rings.get ((0 : Nat) + (Int.toNat x.fst.Ring))).x.AA.AD.n (fun i5 => (V.int IntKind.u64 ((x.snd.rings.get ((0 : Nat) + (Int.toNat x.fst.Ring))).x.AA.AD.get i5)))) V.unit)) (V.cons (V.Aj (x.snd.rings.get ((0 : Nat) + (Int.toNat x.fst.Ring))).x.s.nil (V.cons (V.A7 175 3 (x.snd.rings.get ((0 : Nat) + (Int.toNat x.fst.Ring))).x.s.x.l.nil (x.snd.rings.get ((0 : Nat) + (Int.toNat x.fst.Ring))).x.s.x.l.n (fun i5 => (V.cons (V.int IntKind.u64 ((x.snd.rings.get ((0 : Nat) + (Int.toNat x.fst.Ring))).x.s.x.l.get i5).AP) (V.cons (V.int IntKind.u64 ((x.snd.rings.get ((0 : Nat) + (Int.toNat x.fst.Ring))).x.s.x.l.get i5).Value) (V.cons (V.int IntKind.i64 ((x.snd.rings.get ((0 : Nat) + (Int.toNat x.fst.Ring))).x.s.x.l.get i5).Left) V.unit))))) (V.cons (V.int IntKind.i64 (x.snd.rings.get ((0 : Nat) + (Int.toNat x.fst.Ring))).x.s.x.AX) V.unit))) (V.cons (V.int IntKind.u64 (x.snd.rings.get ((0 : Nat) + (Int.toNat x.fst.Ring))).x.most) (V.cons (V.bool (x.snd.rings.get ((0 : Nat) + (Int.toNat x.fst.Ring))).x.closed) V.unit))))) ∧ ((fun v : V => v = v) (V.Aj (x.snd.rings.get ((0 : Nat) + (Int.toNat x.fst.Ring))).nil (V.cons (V.cons (V.int IntKind.u64 (x.snd.rings.get ((0 : Nat) + (Int.toNat x.fst.Ring))).x.AA.tail) (V.cons (V.A7 36 1 (x.snd.rings.get ((0 : Nat) + (Int.toNat x.fst.Ring))).x.AA.AD.nil (x.snd.rings.get ((0 : Nat) + (Int.toNat x.fst.Ring))).x.AA.AD.n (fun i5 => (V.int IntKind.u64 ((x.snd.rings.get ((0 : Nat) + (Int.toNat x.fst.Ring))).x.AA.AD.get i5)))) V.unit)) (V.cons (V.Aj (x.snd.rings.get ((0 : Nat) + (Int.toNat x.fst.Ring))).x.s.nil (V.cons (V.A7 175 3 (x.snd.rings.get ((0 : Nat) + (Int.toNat x.fst.Ring))).x.s.x.l.nil (x.snd.rings.get ((0 : Nat) + (Int.toNat x.fst.Ring))).x.s.x.l.n (fun i5 => (V.cons (V.int IntKind.u64 ((x.snd.rings.get ((0 : Nat) + (Int.toNat x.fst.Ring))).x.s.x.l.get i5).AP) (V.cons (V.int IntKind.u64 ((x.snd.rings.get ((0 : Nat) + (Int.toNat x.fst.Ring))).x.s.x.l.get i5).Value) (V.cons (V.int IntKind.i64 ((x.snd.rings.get ((0 : Nat) + (Int.toNat x.fst.Ring))).x.s.x.l.get i5).Left) V.unit))))) (V.cons (V.int IntKind.i64 (x.snd.rings.get ((0 : Nat) + (Int.toNat x.fst.Ring))).x.s.x.AX) V.unit))) (V.cons (V.int IntKind.u64 (x.snd.rings.get ((0 : Nat) + (Int.toNat x.fst.Ring))).x.most) (V.cons (V.bool (x.snd.rings.get ((0 : Nat) + (Int.toNat x.fst.Ring))).x.closed) V.unit)))))))) <|
 (.need ((true && true) && (Nat.beq x.snd.rings.n x.snd.rings.n)) <|
 (.ret ((!y4), x.snd))))))))
 (.ret (false, x.snd))))
 (.ite (AW x.fst.Kind 6)
 (.call con_f17 (y2, x.snd) fun (y3 : R_f17) =>
 (.ite y3
 (.need (A3 x.fst.Ring x.snd.rings.n) <|
 (.need (((Nat.beq x.snd.rings.n x.snd.rings.n) && true) && (!(x.snd.rings.get ((0 : Nat) + (Int.toNat x.fst.Ring))).nil)) <|
 (.call con_f15 (x.snd.rings.get ((0 : Nat) + (Int.toNat x.fst.Ring))).x fun (y4 : R_f15) =>
 (.need ((true && true) && (((Nat.beq x.snd.rings.n x.snd.rings.n) && (Nat.blt ((0 : Nat) + (Int.toNat x.fst.Ring)) x.snd.rings.n)) && (!(x.snd.rings.get ((0 : Nat) + (Int.toNat x.fst.Ring))).nil))) <|
 (.side (((fun v : Nat → V => v = v) (fun i5 => (cond (Nat.beq i5 ((0 : Nat) + (Int.toNat x.fst.Ring))) (V.ptr (Id.loc 47 0) List.nil) (V.Aj (x.snd.rings.get i5).nil (V.cons (V.cons (V.int IntKind.u64 (x.snd.rings.get i5).x.AA.tail) (V.cons (V.A7 36 1 (x.snd.rings.get i5).x.AA.AD.nil (x.snd.rings.get i5).x.AA.AD.n (fun i6 => (V.int IntKind.u64 ((x.snd.rings.get i5).x.AA.AD.get i6)))) V.unit)) (V.cons (V.Aj (x.snd.rings.get i5).x.s.nil (V.cons (V.A7 175 3 (x.snd.rings.get i5).x.s.x.l.nil (x.snd.rings.get i5).x.s.x.l.n (fun i6 => (V.cons (V.int IntKind.u64 ((x.snd.rings.get i5).x.s.x.l.get i6).AP) (V.cons (V.int IntKind.u64 ((x.snd.rings.get i5).x.s.x.l.get i6).Value) (V.cons (V.int IntKind.i64 ((x.snd.rings.get i5).x.s.x.l.get i6).Left) V.unit))))) (V.cons (V.int IntKind.i64 (x.snd.rings.get i5).x.s.x.AX) V.unit))) (V.cons (V.int IntKind.u64 (x.snd.rings.get i5).x.most) (V.cons (V.bool (x.snd.rings.get i5).x.closed) V.unit)))))))) ∧ (((fun v : V => v = v) (V.cons (V.cons (V.int IntKind.u64 (x.snd.rings.get ((0 : Nat) + (Int.toNat x.fst.Ring))).x.AA.tail) (V.cons (V.A7 36 1 (x.snd.rings.get ((0 : Nat) + (Int.toNat x.fst.Ring))).x.AA.AD.nil (x.snd.rings.get ((0 : Nat) + (Int.toNat x.fst.Ring))).x.AA.AD.n (fun i5 => (V.int IntKind.u64 ((x.snd.rings.get ((0 : Nat) + (Int.toNat x.fst.Ring))).x.AA.AD.get i5)))) V.unit)) (V.cons (V.Aj (x.snd.rings.get ((0 : Nat) + (Int.toNat x.fst.Ring))).x.s.nil (V.cons (V.A7 175 3 (x.snd.rings.get ((0 : Nat) + (Int.toNat x.fst.Ring))).x.s.x.l.nil (x.snd.rings.get ((0 : Nat) + (Int.toNat x.fst.Ring))).x.s.x.l.n (fun i5 => (V.cons (V.int IntKind.u64 ((x.snd.rings.get ((0 : Nat) + (Int.toNat x.fst.Ring))).x.s.x.l.get i5).AP) (V.cons (V.int IntKind.u64 ((x.snd.rings.get ((0 : Nat) + (Int.toNat x.fst.Ring))).x.s.x.l.get i5).Value) (V.cons (V.int IntKind.i64 ((x.snd.rings.get ((0 : Nat) + (Int.toNat x.fst.Ring))).x.s.x.l.get i5).Left) V.unit))))) (V.cons (V.int IntKind.i64 (x.snd.rings.get ((0 : Nat) + (Int.toNat x.fst.Ring))).x.s.x.AX) V.unit))) (V.cons (V.int IntKind.u64 (x.snd.rings.get ((0 : Nat) + (Int.toNat x.fst.Ring))).x.most) (V.cons (V.bool (x.snd.rings.get ((0 : Nat) + (Int.toNat x.fst.Ring))).x.closed) V.unit))))) ∧ ((fun v : V => v = v) (V.Aj (x.snd.rings.get ((0 : Nat) + (Int.toNat x.fst.Ring))).nil (V.cons (V.cons (V.int IntKind.u64 (x.snd.rings.get ((0 : Nat) + (Int.toNat x.fst.Ring))).x.AA.tail) (V.cons (V.A7 36 1 (x.snd.rings.get ((0 : Nat) + (Int.toNat x.fst.Ring))).x.AA.AD.nil (x.snd.rings.get ((0 : Nat) + (Int.toNat x.fst.Ring))).x.AA.AD.n (fun i5 => (V.int IntKind.u64 ((x.snd.rings.get ((0 : Nat) + (Int.toNat x.fst.Ring))).x.AA.AD.get i5)))) V.unit)) (V.cons (V.Aj (x.snd.rings.get ((0 : Nat) + (Int.toNat x.fst.Ring))).x.s.nil (V.cons (V.A7 175 3 (x.snd.rings.get ((0 : Nat) + (Int.toNat x.fst.Ring))).x.s.x.l.nil (x.snd.rings.get ((0 : Nat) + (Int.toNat x.fst.Ring))).x.s.x.l.n (fun i5 => (V.cons (V.int IntKind.u64 ((x.snd.rings.get ((0 : Nat) + (Int.toNat x.fst.Ring))).x.s.x.l.get i5).AP) (V.cons (V.int IntKind.u64 ((x.snd.rings.get ((0 : Nat) + (Int.toNat x.fst.Ring))).x.s.x.l.get i5).Value) (V.cons (V.int IntKind.i64 ((x.snd.rings.get ((0 : Nat) + (Int.toNat x.fst.Ring))).x.s.x.l.get i5).Left) V.unit))))) (V.cons (V.int IntKind.i64 (x.snd.rings.get ((0 : Nat) + (Int.toNat x.fst.Ring))).x.s.x.AX) V.unit))) (V.cons (V.int IntKind.u64 (x.snd.rings.get ((0 : Nat) + (Int.toNat x.fst.Ring))).x.most) (V.cons (V.bool (x.snd.rings.get ((0 : Nat) + (Int.toNat x.fst.Ring))).x.closed) V.unit)))))))) <|
 (.need ((true && true) && (Nat.beq x.snd.rings.n x.snd.rings.n)) <|
 (.ret (y4, x.snd))))))))
 (.ret (false, x.snd))))
 (.ite (AW x.fst.Kind 8)
 (.ite (Bm x.snd.now x.fst.Value)
 (.ret ((Bg (IntKind.u64.wrap (x.fst.Value - x.snd.now)) 1048576), x.snd))
 (.ret (false, x.snd)))
 (.ite (AW x.fst.Kind 10)
 (.ret ((!x.snd.ended), x.snd))
 (.ite (AW x.fst.Kind 1)
 (.call con_f1g (x.fst, (y2, x.snd)) fun (y3 : R_f1g) =>
 (.ite y3
 (.need (A3 x.fst.Ring x.snd.rings.n) <|
 (.need (((Nat.beq x.snd.rings.n x.snd.rings.n) && true) && (!(x.snd.rings.get ((0 : Nat) + (Int.toNat x.fst.Ring))).nil)) <|
 (.call con_f15 (x.snd.rings.get ((0 : Nat) + (Int.toNat x.fst.Ring))).x fun (y4 : R_f15) =>
 (.need ((true && true) && (((Nat.beq x.snd.rings.n x.snd.rings.n) && (Nat.blt ((0 : Nat) + (Int.toNat x.fst.Ring)) x.snd.rings.n)) && (!(x.snd.rings.get ((0 : Nat) + (Int.toNat x.fst.Ring))).nil))) <|
 (.side (((fun v : Nat → V => v = v) (fun i5 => (cond (Nat.beq i5 ((0 : Nat) + (Int.toNat x.fst.Ring))) (V.ptr (Id.loc 90 0) List.nil) (V.Aj (x.snd.rings.get i5).nil (V.cons (V.cons (V.int IntKind.u64 (x.snd.rings.get i5).x.AA.tail) (V.cons (V.A7 36 1 (x.snd.rings.get i5).x.AA.AD.nil (x.snd.rings.get i5).x.AA.AD.n (fun i6 => (V.int IntKind.u64 ((x.snd.rings.get i5).x.AA.AD.get i6)))) V.unit)) (V.cons (V.Aj (x.snd.rings.get i5).x.s.nil (V.cons (V.A7 175 3 (x.snd.rings.get i5).x.s.x.l.nil (x.snd.rings.get i5).x.s.x.l.n (fun i6 => (V.cons (V.int IntKind.u64 ((x.snd.rings.get i5).x.s.x.l.get i6).AP) (V.cons (V.int IntKind.u64 ((x.snd.rings.get i5).x.s.x.l.get i6).Value) (V.cons (V.int IntKind.i64 ((x.snd.rings.get i5).x.s.x.l.get i6).Left) V.unit))))) (V.cons (V.int IntKind.i64 (x.snd.rings.get i5).x.s.x.AX) V.unit))) (V.cons (V.int IntKind.u64 (x.snd.rings.get i5).x.most) (V.cons (V.bool (x.snd.rings.get i5).x.closed) V.unit)))))))) ∧ (((fun v : V => v = v) (V.cons (V.cons (V.int IntKind.u64 (x.snd.rings.get ((0 : Nat) + (Int.toNat x.fst.Ring))).x.AA.tail) (V.cons (V.A7 36 1 (x.snd.rings.get ((0 : Nat) + (Int.toNat x.fst.Ring))).x.AA.AD.nil (x.snd.rings.get ((0 : Nat) + (Int.toNat x.fst.Ring))).x.AA.AD.n (fun i5 => (V.int IntKind.u64 ((x.snd.rings.get ((0 : Nat) + (Int.toNat x.fst.Ring))).x.AA.AD.get i5)))) V.unit)) (V.cons (V.Aj (x.snd.rings.get ((0 : Nat) + (Int.toNat x.fst.Ring))).x.s.nil (V.cons (V.A7 175 3 (x.snd.rings.get ((0 : Nat) + (Int.toNat x.fst.Ring))).x.s.x.l.nil (x.snd.rings.get ((0 : Nat) + (Int.toNat x.fst.Ring))).x.s.x.l.n (fun i5 => (V.cons (V.int IntKind.u64 ((x.snd.rings.get ((0 : Nat) + (Int.toNat x.fst.Ring))).x.s.x.l.get i5).AP) (V.cons (V.int IntKind.u64 ((x.snd.rings.get ((0 : Nat) + (Int.toNat x.fst.Ring))).x.s.x.l.get i5).Value) (V.cons (V.int IntKind.i64 ((x.snd.rings.get ((0 : Nat) + (Int.toNat x.fst.Ring))).x.s.x.l.get i5).Left) V.unit))))) (V.cons (V.int IntKind.i64 (x.snd.rings.get ((0 : Nat) + (Int.toNat x.fst.Ring))).x.s.x.AX) V.unit))) (V.cons (V.int IntKind.u64 (x.snd.rings.get ((0 : Nat) + (Int.toNat x.fst.Ring))).x.most) (V.cons (V.bool (x.snd.rings.get ((0 : Nat) + (Int.toNat x.fst.Ring))).x.closed) V.unit))))) ∧ ((fun v : V => v = v) (V.Aj (x.snd.rings.get ((0 : Nat) + (Int.toNat x.fst.Ring))).nil (V.cons (V.cons (V.int IntKind.u64 (x.snd.rings.get ((0 : Nat) + (Int.toNat x.fst.Ring))).x.AA.tail) (V.cons (V.A7 36 1 (x.snd.rings.get ((0 : Nat) + (Int.toNat x.fst.Ring))).x.AA.AD.nil (x.snd.rings.get ((0 : Nat) + (Int.toNat x.fst.Ring))).x.AA.AD.n (fun i5 => (V.int IntKind.u64 ((x.snd.rings.get ((0 : Nat) + (Int.toNat x.fst.Ring))).x.AA.AD.get i5)))) V.unit)) (V.cons (V.Aj (x.snd.rings.get ((0 : Nat) + (Int.toNat x.fst.Ring))).x.s.nil (V.cons (V.A7 175 3 (x.snd.rings.get ((0 : Nat) + (Int.toNat x.fst.Ring))).x.s.x.l.nil (x.snd.rings.get ((0 : Nat) + (Int.toNat x.fst.Ring))).x.s.x.l.n (fun i5 => (V.cons (V.int IntKind.u64 ((x.snd.rings.get ((0 : Nat) + (Int.toNat x.fst.Ring))).x.s.x.l.get i5).AP) (V.cons (V.int IntKind.u64 ((x.snd.rings.get ((0 : Nat) + (Int.toNat x.fst.Ring))).x.s.x.l.get i5).Value) (V.cons (V.int IntKind.i64 ((x.snd.rings.get ((0 : Nat) + (Int.toNat x.fst.Ring))).x.s.x.l.get i5).Left) V.unit))))) (V.cons (V.int IntKind.i64 (x.snd.rings.get ((0 : Nat) + (Int.toNat x.fst.Ring))).x.s.x.AX) V.unit))) (V.cons (V.int IntKind.u64 (x.snd.rings.get ((0 : Nat) + (Int.toNat x.fst.Ring))).x.most) (V.cons (V.bool (x.snd.rings.get ((0 : Nat) + (Int.toNat x.fst.Ring))).x.closed) V.unit)))))))) <|
 (.need ((true && true) && (Nat.beq x.snd.rings.n x.snd.rings.n)) <|
 (.ret ((!y4), x.snd))))))))
 (.ret (false, x.snd))))
 (.AM S_fd_16 D_fd_16 (X_fd_16.mk x.fst x.snd y2)))))))))))
theorem sd_fd (x : X_fd) : (tt_fd x).AJ :=
 (TT.sC fun _ => (TT.sI TT.sR (TT.sC fun _ => (TT.sI (TT.sC fun _ => (TT.sI (TT.sN (TT.sN (TT.sC fun _ => (TT.sN (TT.sS ⟨rfl, ⟨rfl, rfl⟩⟩ (TT.sN TT.sR)))))) TT.sR)) (TT.sI (TT.sC fun _ => (TT.sI (TT.sN (TT.sN (TT.sC fun _ => (TT.sN (TT.sS ⟨rfl, ⟨rfl, rfl⟩⟩ (TT.sN TT.sR)))))) TT.sR)) (TT.sI (TT.sC fun _ => (TT.sI (TT.sN (TT.sN (TT.sC fun _ => (TT.sN (TT.sS ⟨rfl, ⟨rfl, rfl⟩⟩ (TT.sN TT.sR)))))) TT.sR)) (TT.sI (TT.sI TT.sR TT.sR) (TT.sI TT.sR (TT.sI (TT.sC fun _ => (TT.sI (TT.sN (TT.sN (TT.sC fun _ => (TT.sN (TT.sS ⟨rfl, ⟨rfl, rfl⟩⟩ (TT.sN TT.sR)))))) TT.sR)) TT.sJ)))))))))
theorem roT_fd (x : X_fd) : TT.Ro p_fd (w_fd x) (tt_fd x) :=
 (TT.rC fun _ => (TT.rI (TT.rR rfl) (TT.rC fun _ => (TT.rI (TT.rC fun _ => (TT.rI (TT.rN (TT.rN (TT.rC fun _ => (TT.rN (TT.rS (TT.rN (TT.rR rfl))))))) (TT.rR rfl))) (TT.rI (TT.rC fun _ => (TT.rI (TT.rN (TT.rN (TT.rC fun _ => (TT.rN (TT.rS (TT.rN (TT.rR rfl))))))) (TT.rR rfl))) (TT.rI (TT.rC fun _ => (TT.rI (TT.rN (TT.rN (TT.rC fun _ => (TT.rN (TT.rS (TT.rN (TT.rR rfl))))))) (TT.rR rfl))) (TT.rI (TT.rI (TT.rR rfl) (TT.rR rfl)) (TT.rI (TT.rR rfl) (TT.rI (TT.rC fun _ => (TT.rI (TT.rN (TT.rN (TT.rC fun _ => (TT.rN (TT.rS (TT.rN (TT.rR rfl))))))) (TT.rR rfl))) (TT.rJ (ro_fd_16 _)))))))))))
def D_fd : AU X_fd R_fd := .ro (.of tt_fd) (fun y => (y.1)) (fun y x => (y, x.2)) fun x y h => congrArg (fun o => (y.1, o)) (roT_fd x y h)
def con_fd : BC Tryz.prog :=
 DT 63 J_fd S_fd (.of tt_fd) D_fd (fun y x => (y, x.2)) (fun y => V.bool y) 2 1 [.any, .any] (lk mxk (lbc ok_fd_16 rfl lbn) sd_fd) (fun x => ⟨(nu_e_TFa : ∀ y, (e_TFa y).Ch) (x.2), trivial⟩)
structure AZ where
 B4 : Int
 Dj : Int
 Gx : Int
 Hn : Bool
def Bc (v : V) : AZ :=
 ⟨dI (fd v 0), dI (fd v 1), dI (fd v 2), dB (fd v 3)⟩
def BW (x : AZ) : V :=
 V.cons ((V.int .i64) x.B4) (V.cons ((V.int .u64) x.Dj) (V.cons ((V.int .u64) x.Gx) (V.cons (V.bool x.Hn) (V.unit))))
theorem Rm (x : AZ) : (BW x).Ch := ⟨trivial, trivial, trivial, trivial, trivial⟩
abbrev X_f2u : Type := (Bx TRr)
abbrev R_f2u : Type := Int
def J_f2u : BH Tryz.prog :=
 BN Tryz.prog Tryz.f81 10 [(5, 1)] [] [(0, [.open_ 0])] [] [.any] [] [] R_f2u [] fun y => [(V.int .u64) y]
def S_f2u : AO :=
 Ah Tryz.f81 1 0 X_f2u (fun x => [ebox_TRr x]) fun l => (dbox_TRr (at_ l 0))
def tt_f2u (x : X_f2u) : TT Tryz.prog R_f2u :=
 (.need (!x.nil) <|
 (.ret x.x.AA.tail))
theorem sd_f2u (x : X_f2u) : (tt_f2u x).AJ :=
 (TT.sN TT.sR)
def D_f2u : AU X_f2u R_f2u := .of tt_f2u
def con_f2u : BC Tryz.prog :=
 Br 81 J_f2u S_f2u D_f2u 1 0 [hbox_TRr] (lk mxk lbn sd_f2u)
abbrev X_fh : Type := (Sl Int) × TAk × AZ × TFa
abbrev R_fh : Type := TEv × Bool
abbrev RR_fh : Type := TEv × Bool × TFa
abbrev p_fh (y : RR_fh) : TFa := y.2.2
abbrev w_fh (x : X_fh) : TFa := x.2.2.2
def J_fh : BH Tryz.prog :=
 BN Tryz.prog Tryz.f43 98 [(6, 3), (7, 3), (79, 1)] [] [] [] [.any, .any] [sh_TFa] [con_fd, con_f1j, con_fg, con_f2u, con_f1f, con_fu] RR_fh [] fun y => [V.CN (V.cons (e_TEv y.1) (V.cons (V.bool y.2.1) (V.unit))), e_TFa y.2.2]
def S_fh : AO :=
 Ah Tryz.f43 4 1 X_fh (fun x => [(V.ptr (.par 0) []), BB x.1, e_TAk x.2.1, BW x.2.2.1, e_TFa x.2.2.2]) fun l => (BV (at_ l 1), d_TAk (at_ l 2), Bc (at_ l 3), d_TFa (at_ l 4))
structure X_fh_26 where
 Ag : TFa
 Gi : TEv
 B5 : TEv
def S_fh_26 : AO :=
 Ad Tryz.f43 26 (an [0, 8, 10]) [sh_TFa] [(.loc 8 0, .any), (.loc 10 0, .any)] X_fh_26 (fun x => [(V.ptr (.par 0) []), (V.ptr (.loc 8 0) []), (V.ptr (.loc 10 0) []), e_TFa x.Ag, e_TEv x.Gi, e_TEv x.B5]) fun l => ⟨d_TFa (at_ l 3), d_TEv (at_ l 4), d_TEv (at_ l 5)⟩
abbrev w_fh_26 (x : X_fh_26) : TFa := (x.Ag)
def tt_fh_26 (x : X_fh_26) : TT Tryz.prog RR_fh :=
 (.call con_fd (x.B5, x.Ag) fun (y1 : R_fd) =>
 (.ret (x.B5, (y1, x.Ag))))
theorem sd_fh_26 (x : X_fh_26) : (tt_fh_26 x).AJ :=
 (TT.sC fun _ => TT.sR)
theorem roT_fh_26 (x : X_fh_26) : TT.Ro p_fh (w_fh_26 x) (tt_fh_26 x) :=
 (TT.rC fun _ => (TT.rR rfl))
def D_fh_26 : AU X_fh_26 RR_fh := .of tt_fh_26
theorem ok_fh_26 : AY J_fh S_fh_26 D_fh_26 :=
 lk mxk lbn sd_fh_26
theorem ro_fh_26 : ∀ x y, D_fh_26.rel x y → p_fh y = w_fh_26 x :=
 roT_fh_26 
def tt_fh (x : X_fh) : TT Tryz.prog RR_fh :=
 (.ite (AW x.snd.fst.Kind 0)
 (.ret ((TEv.mk x.snd.snd.fst.B4 0 0 0 0), (false, x.snd.snd.snd)))
 (.ite (AW x.snd.fst.Kind 1)
 (.call con_fu (x.snd.fst, ((TEv.mk x.snd.snd.fst.B4 0 0 0 0), (x.snd.snd.fst.Hn, x.snd.snd.snd))) fun (y1 : R_fu) =>
 (.ret (y1.fst, (y1.snd, x.snd.snd.snd))))
 (.ite (AW x.snd.fst.Kind 2)
 (.call con_fu (x.snd.fst, ((TEv.mk x.snd.snd.fst.B4 0 0 0 0), (x.snd.snd.fst.Hn, x.snd.snd.snd))) fun (y1 : R_fu) =>
 (.ret (y1.fst, (y1.snd, x.snd.snd.snd))))
 (.ite (AW x.snd.fst.Kind 10)
 (.AM S_fh_26 D_fh_26 (X_fh_26.mk x.snd.snd.snd (TEv.mk 0 0 0 0 0) (TEv.mk x.snd.snd.fst.B4 2 x.snd.fst.Ring x.snd.fst.AG 0)))
 (.ite (AW x.snd.fst.Kind 11)
 (.AM S_fh_26 D_fh_26 (X_fh_26.mk x.snd.snd.snd (TEv.mk 0 0 0 0 0) (TEv.mk x.snd.snd.fst.B4 4 x.snd.fst.Ring x.snd.fst.AG 0)))
 (.ite (AW x.snd.fst.Kind 3)
 (.call con_fg (x.snd.fst.Ring, x.snd.snd.snd) fun (y1 : R_fg) =>
 (.call con_f2u y1 fun (y2 : R_f2u) =>
 (.AM S_fh_26 D_fh_26 (X_fh_26.mk x.snd.snd.snd (TEv.mk 0 0 0 0 0) (TEv.mk x.snd.snd.fst.B4 13 x.snd.fst.Ring y2 0)))))
 (.ite (AW x.snd.fst.Kind 4)
 (.call con_f1j x.snd.snd.snd fun (y1 : R_f1j) =>
 (.AM S_fh_26 D_fh_26 (X_fh_26.mk x.snd.snd.snd (TEv.mk 0 0 0 0 0) (TEv.mk x.snd.snd.fst.B4 8 0 0 (IntKind.u64.wrap (y1 + (Int.tmod x.snd.snd.fst.Dj 1048576)))))))
 (.ite (AW x.snd.fst.Kind 5)
 (.AM S_fh_26 D_fh_26 (X_fh_26.mk x.snd.snd.snd (TEv.mk 0 0 0 0 0) (TEv.mk x.snd.snd.fst.B4 9 0 0 x.snd.snd.fst.Gx)))
 (.ite (AW x.snd.fst.Kind 6)
 (.call con_f1f (x.fst, ((TEv.mk x.snd.snd.fst.B4 0 0 0 0), x.snd.snd.snd)) fun (y1 : R_f1f) =>
 (.AM S_fh_26 D_fh_26 (X_fh_26.mk x.snd.snd.snd (TEv.mk 0 0 0 0 0) y1)))
 (.ite (AW x.snd.fst.Kind 7)
 (.AM S_fh_26 D_fh_26 (X_fh_26.mk x.snd.snd.snd (TEv.mk 0 0 0 0 0) (TEv.mk x.snd.snd.fst.B4 12 0 0 x.snd.fst.Value)))
 (.ite (AW x.snd.fst.Kind 8)
 (.AM S_fh_26 D_fh_26 (X_fh_26.mk x.snd.snd.snd (TEv.mk 0 0 0 0 0) (TEv.mk x.snd.snd.fst.B4 14 0 0 0)))
 (.ite (AW x.snd.fst.Kind 9)
 (.AM S_fh_26 D_fh_26 (X_fh_26.mk x.snd.snd.snd (TEv.mk 0 0 0 0 0) (TEv.mk x.snd.snd.fst.B4 15 0 0 0)))
 (.AM S_fh_26 D_fh_26 (X_fh_26.mk x.snd.snd.snd (TEv.mk 0 0 0 0 0) (TEv.mk x.snd.snd.fst.B4 0 0 0 0)))))))))))))))
theorem sd_fh (x : X_fh) : (tt_fh x).AJ :=
 (TT.sI TT.sR (TT.sI (TT.sC fun _ => TT.sR) (TT.sI (TT.sC fun _ => TT.sR) (TT.sI TT.sJ (TT.sI TT.sJ (TT.sI (TT.sC fun _ => (TT.sC fun _ => TT.sJ)) (TT.sI (TT.sC fun _ => TT.sJ) (TT.sI TT.sJ (TT.sI (TT.sC fun _ => TT.sJ) (TT.sI TT.sJ (TT.sI TT.sJ (TT.sI TT.sJ TT.sJ))))))))))))
theorem roT_fh (x : X_fh) : TT.Ro p_fh (w_fh x) (tt_fh x) :=
 (TT.rI (TT.rR rfl) (TT.rI (TT.rC fun _ => (TT.rR rfl)) (TT.rI (TT.rC fun _ => (TT.rR rfl)) (TT.rI (TT.rJ (ro_fh_26 _)) (TT.rI (TT.rJ (ro_fh_26 _)) (TT.rI (TT.rC fun _ => (TT.rC fun _ => (TT.rJ (ro_fh_26 _)))) (TT.rI (TT.rC fun _ => (TT.rJ (ro_fh_26 _))) (TT.rI (TT.rJ (ro_fh_26 _)) (TT.rI (TT.rC fun _ => (TT.rJ (ro_fh_26 _))) (TT.rI (TT.rJ (ro_fh_26 _)) (TT.rI (TT.rJ (ro_fh_26 _)) (TT.rI (TT.rJ (ro_fh_26 _)) (TT.rJ (ro_fh_26 _))))))))))))))
def D_fh : AU X_fh R_fh := .ro (.of tt_fh) (fun y => (y.1, y.2.1)) (fun y x => (y.1, y.2, x.2.2.2)) fun x y h => congrArg (fun o => (y.1, y.2.1, o)) (roT_fh x y h)
def con_fh : BC Tryz.prog :=
 DT 43 J_fh S_fh (.of tt_fh) D_fh (fun y x => (y.1, y.2, x.2.2.2)) (fun y => V.CN (V.cons (e_TEv y.1) (V.cons (V.bool y.2) (V.unit)))) 4 1 [.any, BJ, .any, .any] (lk mxk (lbc ok_fh_26 rfl lbn) sd_fh) (fun x => ⟨(nu_e_TFa : ∀ y, (e_TFa y).Ch) (x.2.2.2), trivial⟩)
abbrev X_f2h : Type := (Sl Int) × AZ × TFa
abbrev R_f2h : Type := TEv × Bool
abbrev RR_f2h : Type := TEv × Bool × TFa
abbrev p_f2h (y : RR_f2h) : TFa := y.2.2
abbrev w_f2h (x : X_f2h) : TFa := x.2.2
def J_f2h : BH Tryz.prog :=
 BN Tryz.prog Tryz.f15 34 [(5, 3), (12, 1), (22, 1), (24, 1)] [] [] [] [.any, .any] [sh_TFa] [con_f1o, con_fh] RR_f2h [] fun y => [V.CN (V.cons (e_TEv y.1) (V.cons (V.bool y.2.1) (V.unit))), e_TFa y.2.2]
def S_f2h : AO :=
 Ah Tryz.f15 3 1 X_f2h (fun x => [(V.ptr (.par 0) []), BB x.1, BW x.2.1, e_TFa x.2.2]) fun l => (BV (at_ l 1), Bc (at_ l 2), d_TFa (at_ l 3))
def tt_f2h (x : X_f2h) : TT Tryz.prog RR_f2h :=
 (.call con_f1o (x.snd.fst.B4, x.snd.snd) fun (y1 : R_f1o) =>
 (.ite (!(AW y1.snd 0))
 (.ret ((TEv.mk 0 0 0 0 0), (false, x.snd.snd)))
 (.call con_fh (x.fst, (y1.fst, (x.snd.fst, x.snd.snd))) fun (y2 : R_fh) =>
 (.ite (!y2.snd)
 (.ret ((TEv.mk 0 0 0 0 0), (false, x.snd.snd)))
 (.ret (y2.fst, (true, x.snd.snd)))))))
theorem sd_f2h (x : X_f2h) : (tt_f2h x).AJ :=
 (TT.sC fun _ => (TT.sI TT.sR (TT.sC fun _ => (TT.sI TT.sR TT.sR))))
theorem roT_f2h (x : X_f2h) : TT.Ro p_f2h (w_f2h x) (tt_f2h x) :=
 (TT.rC fun _ => (TT.rI (TT.rR rfl) (TT.rC fun _ => (TT.rI (TT.rR rfl) (TT.rR rfl)))))
def D_f2h : AU X_f2h R_f2h := .ro (.of tt_f2h) (fun y => (y.1, y.2.1)) (fun y x => (y.1, y.2, x.2.2)) fun x y h => congrArg (fun o => (y.1, y.2.1, o)) (roT_f2h x y h)
def con_f2h : BC Tryz.prog :=
 DT 15 J_f2h S_f2h (.of tt_f2h) D_f2h (fun y x => (y.1, y.2, x.2.2)) (fun y => V.CN (V.cons (e_TEv y.1) (V.cons (V.bool y.2) (V.unit)))) 3 1 [.any, BJ, .any] (lk mxk lbn sd_f2h) (fun x => ⟨(nu_e_TFa : ∀ y, (e_TFa y).Ch) (x.2.2), trivial⟩)
abbrev X_f2x : Type := TRr
abbrev R_f2x : Type := Int × Int × TRr
def J_f2x : BH Tryz.prog :=
 BN Tryz.prog Tryz.f165 30 [] [] [] [] [.any, .any] [sh_TRr] [con_f1l] R_f2x [] fun y => [V.CN (V.cons ((V.int .u64) y.1) (V.cons ((V.int .i64) y.2.1) (V.unit))), e_TRr y.2.2]
def S_f2x : AO :=
 Ah Tryz.f165 1 1 X_f2x (fun x => [(V.ptr (.par 0) []), e_TRr x]) fun l => (d_TRr (at_ l 1))
def tt_f2x (x : X_f2x) : TT Tryz.prog R_f2x :=
 (.ite x.closed
 (.ret (0, (10, x)))
 (.call con_f1l x fun (y1 : R_f1l) =>
 (.ite y1
 (.ret (0, (8, x)))
 (.ret ((IntKind.u64.wrap ((IntKind.u64.wrap (x.AA.tail + 1)) - 1)), (0, (TRr.mk (TRc.mk (IntKind.u64.wrap (x.AA.tail + 1)) x.AA.AD) x.s x.most x.closed)))))))
theorem sd_f2x (x : X_f2x) : (tt_f2x x).AJ :=
 (TT.sI TT.sR (TT.sC fun _ => (TT.sI TT.sR TT.sR)))
def D_f2x : AU X_f2x R_f2x := .of tt_f2x
def con_f2x : BC Tryz.prog :=
 Br 165 J_f2x S_f2x D_f2x 1 1 [.any] (lk mxk lbn sd_f2x)
abbrev X_f2c : Type := Int × TFa
abbrev R_f2c : Type := TFa
def J_f2c : BH Tryz.prog :=
 BN Tryz.prog Tryz.f118 56 [(9, 1), (34, 1), (54, 1)] [(1, [.close (.loc 16 0), .close (.loc 13 0)]), (2, [.close (.loc 16 0), .close (.loc 13 0)]), (3, [.close (.loc 28 0), .close (.loc 25 0), .close (.loc 16 0), .close (.loc 13 0)]), (4, [.close (.loc 28 0), .close (.loc 25 0), .close (.loc 16 0), .close (.loc 13 0)]), (5, [.close (.loc 28 0), .close (.loc 25 0), .close (.loc 16 0), .close (.loc 13 0)]), (6, [.close (.loc 28 0), .close (.loc 25 0), .close (.loc 16 0), .close (.loc 13 0)])] [] [.close (.loc 52 0), .close (.loc 28 0), .close (.loc 25 0), .close (.loc 16 0), .close (.loc 13 0)] [] [sh_TFa] [con_fc, con_f2x, con_f1k] R_f2c [] fun y => [V.CN (V.unit), e_TFa y]
def S_f2c : AO :=
 Ah Tryz.f118 2 1 X_f2c (fun x => [(V.ptr (.par 0) []), (V.int .i64) x.1, e_TFa x.2]) fun l => (dI (at_ l 1), d_TFa (at_ l 2))
def tt_f2c (x : X_f2c) : TT Tryz.prog R_f2c :=
 (.need (A3 x.fst x.snd.rings.n) <|
 (.need (((Nat.beq x.snd.rings.n x.snd.rings.n) && true) && (!(x.snd.rings.get ((0 : Nat) + (Int.toNat x.fst))).nil)) <|
 (.call con_f2x (x.snd.rings.get ((0 : Nat) + (Int.toNat x.fst))).x fun (y1 : R_f2x) =>
 (.need ((true && true) && ((Nat.beq x.snd.rings.n x.snd.rings.n) && (Nat.blt ((0 : Nat) + (Int.toNat x.fst)) x.snd.rings.n))) <|
 (.side ((fun v : Nat → V => v = v) (fun i2 => (cond (Nat.beq i2 ((0 : Nat) + (Int.toNat x.fst))) (V.ptr (Id.loc 16 0) List.nil) (V.Aj (x.snd.rings.get i2).nil (V.cons (V.cons (V.int IntKind.u64 (x.snd.rings.get i2).x.AA.tail) (V.cons (V.A7 36 1 (x.snd.rings.get i2).x.AA.AD.nil (x.snd.rings.get i2).x.AA.AD.n (fun i3 => (V.int IntKind.u64 ((x.snd.rings.get i2).x.AA.AD.get i3)))) V.unit)) (V.cons (V.Aj (x.snd.rings.get i2).x.s.nil (V.cons (V.A7 175 3 (x.snd.rings.get i2).x.s.x.l.nil (x.snd.rings.get i2).x.s.x.l.n (fun i3 => (V.cons (V.int IntKind.u64 ((x.snd.rings.get i2).x.s.x.l.get i3).AP) (V.cons (V.int IntKind.u64 ((x.snd.rings.get i2).x.s.x.l.get i3).Value) (V.cons (V.int IntKind.i64 ((x.snd.rings.get i2).x.s.x.l.get i3).Left) V.unit))))) (V.cons (V.int IntKind.i64 (x.snd.rings.get i2).x.s.x.AX) V.unit))) (V.cons (V.int IntKind.u64 (x.snd.rings.get i2).x.most) (V.cons (V.bool (x.snd.rings.get i2).x.closed) V.unit)))))))) <|
 (.need ((true && true) && (Nat.beq x.snd.rings.n x.snd.rings.n)) <|
 (.ite (!(AW y1.snd.fst 10))
 (.ret (TFa.mk x.snd.p x.snd.threads (Sl.mk x.snd.rings.nil x.snd.rings.n (fun i2 => (Bx.mk (cond (Nat.beq i2 ((0 : Nat) + (Int.toNat x.fst))) false (x.snd.rings.get i2).nil) (TRr.mk (TRc.mk (cond (Nat.beq i2 ((0 : Nat) + (Int.toNat x.fst))) y1.snd.snd.AA.tail (x.snd.rings.get i2).x.AA.tail) (Sl.mk (cond (Nat.beq i2 ((0 : Nat) + (Int.toNat x.fst))) y1.snd.snd.AA.AD.nil (x.snd.rings.get i2).x.AA.AD.nil) (cond (Nat.beq i2 ((0 : Nat) + (Int.toNat x.fst))) y1.snd.snd.AA.AD.n (x.snd.rings.get i2).x.AA.AD.n) (fun i3 => (cond (Nat.beq i2 ((0 : Nat) + (Int.toNat x.fst))) (y1.snd.snd.AA.AD.get i3) ((x.snd.rings.get i2).x.AA.AD.get i3))))) (Bx.mk (cond (Nat.beq i2 ((0 : Nat) + (Int.toNat x.fst))) y1.snd.snd.s.nil (x.snd.rings.get i2).x.s.nil) (TSs.mk (Sl.mk (cond (Nat.beq i2 ((0 : Nat) + (Int.toNat x.fst))) y1.snd.snd.s.x.l.nil (x.snd.rings.get i2).x.s.x.l.nil) (cond (Nat.beq i2 ((0 : Nat) + (Int.toNat x.fst))) y1.snd.snd.s.x.l.n (x.snd.rings.get i2).x.s.x.l.n) (fun i3 => (TSo.mk (cond (Nat.beq i2 ((0 : Nat) + (Int.toNat x.fst))) (y1.snd.snd.s.x.l.get i3).AP ((x.snd.rings.get i2).x.s.x.l.get i3).AP) (cond (Nat.beq i2 ((0 : Nat) + (Int.toNat x.fst))) (y1.snd.snd.s.x.l.get i3).Value ((x.snd.rings.get i2).x.s.x.l.get i3).Value) (cond (Nat.beq i2 ((0 : Nat) + (Int.toNat x.fst))) (y1.snd.snd.s.x.l.get i3).Left ((x.snd.rings.get i2).x.s.x.l.get i3).Left)))) (cond (Nat.beq i2 ((0 : Nat) + (Int.toNat x.fst))) y1.snd.snd.s.x.AX (x.snd.rings.get i2).x.s.x.AX))) (cond (Nat.beq i2 ((0 : Nat) + (Int.toNat x.fst))) y1.snd.snd.most (x.snd.rings.get i2).x.most) (cond (Nat.beq i2 ((0 : Nat) + (Int.toNat x.fst))) y1.snd.snd.closed (x.snd.rings.get i2).x.closed))))) x.snd.now x.snd.reads x.snd.ended))
 (.need (A3 x.fst x.snd.rings.n) <|
 (.need (((Nat.beq x.snd.rings.n x.snd.rings.n) && true) && (!(cond (Nat.beq ((0 : Nat) + (Int.toNat x.fst)) ((0 : Nat) + (Int.toNat x.fst))) false (x.snd.rings.get ((0 : Nat) + (Int.toNat x.fst))).nil))) <|
 (.call con_f1k (TRr.mk (TRc.mk (cond (Nat.beq ((0 : Nat) + (Int.toNat x.fst)) ((0 : Nat) + (Int.toNat x.fst))) y1.snd.snd.AA.tail (x.snd.rings.get ((0 : Nat) + (Int.toNat x.fst))).x.AA.tail) (Sl.mk (cond (Nat.beq ((0 : Nat) + (Int.toNat x.fst)) ((0 : Nat) + (Int.toNat x.fst))) y1.snd.snd.AA.AD.nil (x.snd.rings.get ((0 : Nat) + (Int.toNat x.fst))).x.AA.AD.nil) (cond (Nat.beq ((0 : Nat) + (Int.toNat x.fst)) ((0 : Nat) + (Int.toNat x.fst))) y1.snd.snd.AA.AD.n (x.snd.rings.get ((0 : Nat) + (Int.toNat x.fst))).x.AA.AD.n) (fun i2 => (cond (Nat.beq ((0 : Nat) + (Int.toNat x.fst)) ((0 : Nat) + (Int.toNat x.fst))) (y1.snd.snd.AA.AD.get i2) ((x.snd.rings.get ((0 : Nat) + (Int.toNat x.fst))).x.AA.AD.get i2))))) (Bx.mk (cond (Nat.beq ((0 : Nat) + (Int.toNat x.fst)) ((0 : Nat) + (Int.toNat x.fst))) y1.snd.snd.s.nil (x.snd.rings.get ((0 : Nat) + (Int.toNat x.fst))).x.s.nil) (TSs.mk (Sl.mk (cond (Nat.beq ((0 : Nat) + (Int.toNat x.fst)) ((0 : Nat) + (Int.toNat x.fst))) y1.snd.snd.s.x.l.nil (x.snd.rings.get ((0 : Nat) + (Int.toNat x.fst))).x.s.x.l.nil) (cond (Nat.beq ((0 : Nat) + (Int.toNat x.fst)) ((0 : Nat) + (Int.toNat x.fst))) y1.snd.snd.s.x.l.n (x.snd.rings.get ((0 : Nat) + (Int.toNat x.fst))).x.s.x.l.n) (fun i2 => (TSo.mk (cond (Nat.beq ((0 : Nat) + (Int.toNat x.fst)) ((0 : Nat) + (Int.toNat x.fst))) (y1.snd.snd.s.x.l.get i2).AP ((x.snd.rings.get ((0 : Nat) + (Int.toNat x.fst))).x.s.x.l.get i2).AP) (cond (Nat.beq ((0 : Nat) + (Int.toNat x.fst)) ((0 : Nat) + (Int.toNat x.fst))) (y1.snd.snd.s.x.l.get i2).Value ((x.snd.rings.get ((0 : Nat) + (Int.toNat x.fst))).x.s.x.l.get i2).Value) (cond (Nat.beq ((0 : Nat) + (Int.toNat x.fst)) ((0 : Nat) + (Int.toNat x.fst))) (y1.snd.snd.s.x.l.get i2).Left ((x.snd.rings.get ((0 : Nat) + (Int.toNat x.fst))).x.s.x.l.get i2).Left)))) (cond (Nat.beq ((0 : Nat) + (Int.toNat x.fst)) ((0 : Nat) + (Int.toNat x.fst))) y1.snd.snd.s.x.AX (x.snd.rings.get ((0 : Nat) + (Int.toNat x.fst))).x.s.x.AX))) (cond (Nat.beq ((0 : Nat) + (Int.toNat x.fst)) ((0 : Nat) + (Int.toNat x.fst))) y1.snd.snd.most (x.snd.rings.get ((0 : Nat) + (Int.toNat x.fst))).x.most) (cond (Nat.beq ((0 : Nat) + (Int.toNat x.fst)) ((0 : Nat) + (Int.toNat x.fst))) y1.snd.snd.closed (x.snd.rings.get ((0 : Nat) + (Int.toNat x.fst))).x.closed)) fun (y2 : R_f1k) =>
 (.need ((true && true) && ((Nat.beq x.snd.rings.n x.snd.rings.n) && (Nat.blt ((0 : Nat) + (Int.toNat x.fst)) x.snd.rings.n))) <|
 (.side ((fun v : Nat → V => v = v) (fun i3 => (cond (Nat.beq i3 ((0 : Nat) + (Int.toNat x.fst))) (V.ptr (Id.loc 28 0) List.nil) (V.Aj (cond (Nat.beq i3 ((0 : Nat) + (Int.toNat x.fst))) false (x.snd.rings.get i3).nil) (V.cons (V.cons (V.int IntKind.u64 (cond (Nat.beq i3 ((0 : Nat) + (Int.toNat x.fst))) y1.snd.snd.AA.tail (x.snd.rings.get i3).x.AA.tail)) (V.cons (V.A7 36 1 (cond (Nat.beq i3 ((0 : Nat) + (Int.toNat x.fst))) y1.snd.snd.AA.AD.nil (x.snd.rings.get i3).x.AA.AD.nil) (cond (Nat.beq i3 ((0 : Nat) + (Int.toNat x.fst))) y1.snd.snd.AA.AD.n (x.snd.rings.get i3).x.AA.AD.n) (fun i4 => (V.int IntKind.u64 (cond (Nat.beq i3 ((0 : Nat) + (Int.toNat x.fst))) (y1.snd.snd.AA.AD.get i4) ((x.snd.rings.get i3).x.AA.AD.get i4))))) V.unit)) (V.cons (V.Aj (cond (Nat.beq i3 ((0 : Nat) + (Int.toNat x.fst))) y1.snd.snd.s.nil (x.snd.rings.get i3).x.s.nil) (V.cons (V.A7 175 3 (cond (Nat.beq i3 ((0 : Nat) + (Int.toNat x.fst))) y1.snd.snd.s.x.l.nil (x.snd.rings.get i3).x.s.x.l.nil) (cond (Nat.beq i3 ((0 : Nat) + (Int.toNat x.fst))) y1.snd.snd.s.x.l.n (x.snd.rings.get i3).x.s.x.l.n) (fun i4 => (V.cons (V.int IntKind.u64 (cond (Nat.beq i3 ((0 : Nat) + (Int.toNat x.fst))) (y1.snd.snd.s.x.l.get i4).AP ((x.snd.rings.get i3).x.s.x.l.get i4).AP)) (V.cons (V.int IntKind.u64 (cond (Nat.beq i3 ((0 : Nat) + (Int.toNat x.fst))) (y1.snd.snd.s.x.l.get i4).Value ((x.snd.rings.get i3).x.s.x.l.get i4).Value)) (V.cons (V.int IntKind.i64 (cond (Nat.beq i3 ((0 : Nat) + (Int.toNat x.fst))) (y1.snd.snd.s.x.l.get i4).Left ((x.snd.rings.get i3).x.s.x.l.get i4).Left)) V.unit))))) (V.cons (V.int IntKind.i64 (cond (Nat.beq i3 ((0 : Nat) + (Int.toNat x.fst))) y1.snd.snd.s.x.AX (x.snd.rings.get i3).x.s.x.AX)) V.unit))) (V.cons (V.int IntKind.u64 (cond (Nat.beq i3 ((0 : Nat) + (Int.toNat x.fst))) y1.snd.snd.most (x.snd.rings.get i3).x.most)) (V.cons (V.bool (cond (Nat.beq i3 ((0 : Nat) + (Int.toNat x.fst))) y1.snd.snd.closed (x.snd.rings.get i3).x.closed)) V.unit)))))))) <|
 (.need ((true && true) && (Nat.beq x.snd.rings.n x.snd.rings.n)) <|
 (.need (A3 x.fst x.snd.p.AF.n) <|
 (.call con_fc ((x.snd.p.AF.get (Int.toNat x.fst)), (TRs.mk (IntKind.u64.wrap (y2.Ax + 1)) y2.AV y2.Ao y2.Ai)) fun (y3 : R_fc) =>
 (.ite (AW y3.snd 0)
 (.need (A3 x.fst x.snd.rings.n) <|
 (.need ((Nat.beq x.snd.rings.n x.snd.rings.n) && true) <|
 (.need ((true && true) && (Nat.beq x.snd.rings.n x.snd.rings.n)) <|
 (.ret (TFa.mk x.snd.p x.snd.threads (Sl.mk x.snd.rings.nil x.snd.rings.n (fun i4 => (Bx.mk (cond (Nat.beq i4 ((0 : Nat) + (Int.toNat x.fst))) y3.fst.nil (cond (Nat.beq i4 ((0 : Nat) + (Int.toNat x.fst))) false (cond (Nat.beq i4 ((0 : Nat) + (Int.toNat x.fst))) false (x.snd.rings.get i4).nil))) (TRr.mk (TRc.mk (cond (Nat.beq i4 ((0 : Nat) + (Int.toNat x.fst))) y3.fst.x.AA.tail (cond (Nat.beq i4 ((0 : Nat) + (Int.toNat x.fst))) (cond (Nat.beq ((0 : Nat) + (Int.toNat x.fst)) ((0 : Nat) + (Int.toNat x.fst))) y1.snd.snd.AA.tail (x.snd.rings.get ((0 : Nat) + (Int.toNat x.fst))).x.AA.tail) (cond (Nat.beq i4 ((0 : Nat) + (Int.toNat x.fst))) y1.snd.snd.AA.tail (x.snd.rings.get i4).x.AA.tail))) (Sl.mk (cond (Nat.beq i4 ((0 : Nat) + (Int.toNat x.fst))) y3.fst.x.AA.AD.nil (cond (Nat.beq i4 ((0 : Nat) + (Int.toNat x.fst))) (cond (Nat.beq ((0 : Nat) + (Int.toNat x.fst)) ((0 : Nat) + (Int.toNat x.fst))) y1.snd.snd.AA.AD.nil (x.snd.rings.get ((0 : Nat) + (Int.toNat x.fst))).x.AA.AD.nil) (cond (Nat.beq i4 ((0 : Nat) + (Int.toNat x.fst))) y1.snd.snd.AA.AD.nil (x.snd.rings.get i4).x.AA.AD.nil))) (cond (Nat.beq i4 ((0 : Nat) + (Int.toNat x.fst))) y3.fst.x.AA.AD.n (cond (Nat.beq i4 ((0 : Nat) + (Int.toNat x.fst))) (cond (Nat.beq ((0 : Nat) + (Int.toNat x.fst)) ((0 : Nat) + (Int.toNat x.fst))) y1.snd.snd.AA.AD.n (x.snd.rings.get ((0 : Nat) + (Int.toNat x.fst))).x.AA.AD.n) (cond (Nat.beq i4 ((0 : Nat) + (Int.toNat x.fst))) y1.snd.snd.AA.AD.n (x.snd.rings.get i4).x.AA.AD.n))) (fun i5 => (cond (Nat.beq i4 ((0 : Nat) + (Int.toNat x.fst))) (y3.fst.x.AA.AD.get i5) (cond (Nat.beq i4 ((0 : Nat) + (Int.toNat x.fst))) (cond (Nat.beq ((0 : Nat) + (Int.toNat x.fst)) ((0 : Nat) + (Int.toNat x.fst))) (y1.snd.snd.AA.AD.get i5) ((x.snd.rings.get ((0 : Nat) + (Int.toNat x.fst))).x.AA.AD.get i5)) (cond (Nat.beq i4 ((0 : Nat) + (Int.toNat x.fst))) (y1.snd.snd.AA.AD.get i5) ((x.snd.rings.get i4).x.AA.AD.get i5))))))) (Bx.mk (cond (Nat.beq i4 ((0 : Nat) + (Int.toNat x.fst))) y3.fst.x.s.nil (cond (Nat.beq i4 ((0 : Nat) + (Int.toNat x.fst))) (cond (Nat.beq ((0 : Nat) + (Int.toNat x.fst)) ((0 : Nat) + (Int.toNat x.fst))) y1.snd.snd.s.nil (x.snd.rings.get ((0 : Nat) + (Int.toNat x.fst))).x.s.nil) (cond (Nat.beq i4 ((0 : Nat) + (Int.toNat x.fst))) y1.snd.snd.s.nil (x.snd.rings.get i4).x.s.nil))) (TSs.mk (Sl.mk (cond (Nat.beq i4 ((0 : Nat) + (Int.toNat x.fst))) y3.fst.x.s.x.l.nil (cond (Nat.beq i4 ((0 : Nat) + (Int.toNat x.fst))) (cond (Nat.beq ((0 : Nat) + (Int.toNat x.fst)) ((0 : Nat) + (Int.toNat x.fst))) y1.snd.snd.s.x.l.nil (x.snd.rings.get ((0 : Nat) + (Int.toNat x.fst))).x.s.x.l.nil) (cond (Nat.beq i4 ((0 : Nat) + (Int.toNat x.fst))) y1.snd.snd.s.x.l.nil (x.snd.rings.get i4).x.s.x.l.nil))) (cond (Nat.beq i4 ((0 : Nat) + (Int.toNat x.fst))) y3.fst.x.s.x.l.n (cond (Nat.beq i4 ((0 : Nat) + (Int.toNat x.fst))) (cond (Nat.beq ((0 : Nat) + (Int.toNat x.fst)) ((0 : Nat) + (Int.toNat x.fst))) y1.snd.snd.s.x.l.n (x.snd.rings.get ((0 : Nat) + (Int.toNat x.fst))).x.s.x.l.n) (cond (Nat.beq i4 ((0 : Nat) + (Int.toNat x.fst))) y1.snd.snd.s.x.l.n (x.snd.rings.get i4).x.s.x.l.n))) (fun i5 => (TSo.mk (cond (Nat.beq i4 ((0 : Nat) + (Int.toNat x.fst))) (y3.fst.x.s.x.l.get i5).AP (cond (Nat.beq i4 ((0 : Nat) + (Int.toNat x.fst))) (cond (Nat.beq ((0 : Nat) + (Int.toNat x.fst)) ((0 : Nat) + (Int.toNat x.fst))) (y1.snd.snd.s.x.l.get i5).AP ((x.snd.rings.get ((0 : Nat) + (Int.toNat x.fst))).x.s.x.l.get i5).AP) (cond (Nat.beq i4 ((0 : Nat) + (Int.toNat x.fst))) (y1.snd.snd.s.x.l.get i5).AP ((x.snd.rings.get i4).x.s.x.l.get i5).AP))) (cond (Nat.beq i4 ((0 : Nat) + (Int.toNat x.fst))) (y3.fst.x.s.x.l.get i5).Value (cond (Nat.beq i4 ((0 : Nat) + (Int.toNat x.fst))) (cond (Nat.beq ((0 : Nat) + (Int.toNat x.fst)) ((0 : Nat) + (Int.toNat x.fst))) (y1.snd.snd.s.x.l.get i5).Value ((x.snd.rings.get ((0 : Nat) + (Int.toNat x.fst))).x.s.x.l.get i5).Value) (cond (Nat.beq i4 ((0 : Nat) + (Int.toNat x.fst))) (y1.snd.snd.s.x.l.get i5).Value ((x.snd.rings.get i4).x.s.x.l.get i5).Value))) (cond (Nat.beq i4 ((0 : Nat) + (Int.toNat x.fst))) (y3.fst.x.s.x.l.get i5).Left (cond (Nat.beq i4 ((0 : Nat) + (Int.toNat x.fst))) (cond (Nat.beq ((0 : Nat) + (Int.toNat x.fst)) ((0 : Nat) + (Int.toNat x.fst))) (y1.snd.snd.s.x.l.get i5).Left ((x.snd.rings.get ((0 : Nat) + (Int.toNat x.fst))).x.s.x.l.get i5).Left) (cond (Nat.beq i4 ((0 : Nat) + (Int.toNat x.fst))) (y1.snd.snd.s.x.l.get i5).Left ((x.snd.rings.get i4).x.s.x.l.get i5).Left)))))) (cond (Nat.beq i4 ((0 : Nat) + (Int.toNat x.fst))) y3.fst.x.s.x.AX (cond (Nat.beq i4 ((0 : Nat) + (Int.toNat x.fst))) (cond (Nat.beq ((0 : Nat) + (Int.toNat x.fst)) ((0 : Nat) + (Int.toNat x.fst))) y1.snd.snd.s.x.AX (x.snd.rings.get ((0 : Nat) + (Int.toNat x.fst))).x.s.x.AX) (cond (Nat.beq i4 ((0 : Nat) + (Int.toNat x.fst))) y1.snd.snd.s.x.AX (x.snd.rings.get i4).x.s.x.AX))))) (cond (Nat.beq i4 ((0 : Nat) + (Int.toNat x.fst))) y3.fst.x.most (cond (Nat.beq i4 ((0 : Nat) + (Int.toNat x.fst))) (cond (Nat.beq ((0 : Nat) + (Int.toNat x.fst)) ((0 : Nat) + (Int.toNat x.fst))) y1.snd.snd.most (x.snd.rings.get ((0 : Nat) + (Int.toNat x.fst))).x.most) (cond (Nat.beq i4 ((0 : Nat) + (Int.toNat x.fst))) y1.snd.snd.most (x.snd.rings.get i4).x.most))) (cond (Nat.beq i4 ((0 : Nat) + (Int.toNat x.fst))) y3.fst.x.closed (cond (Nat.beq i4 ((0 : Nat) + (Int.toNat x.fst))) (cond (Nat.beq ((0 : Nat) + (Int.toNat x.fst)) ((0 : Nat) + (Int.toNat x.fst))) y1.snd.snd.closed (x.snd.rings.get ((0 : Nat) + (Int.toNat x.fst))).x.closed) (cond (Nat.beq i4 ((0 : Nat) + (Int.toNat x.fst))) y1.snd.snd.closed (x.snd.rings.get i4).x.closed))))))) x.snd.now x.snd.reads x.snd.ended)))))
 (.ret (TFa.mk x.snd.p x.snd.threads (Sl.mk x.snd.rings.nil x.snd.rings.n (fun i4 => (Bx.mk (cond (Nat.beq i4 ((0 : Nat) + (Int.toNat x.fst))) false (cond (Nat.beq i4 ((0 : Nat) + (Int.toNat x.fst))) false (x.snd.rings.get i4).nil)) (TRr.mk (TRc.mk (cond (Nat.beq i4 ((0 : Nat) + (Int.toNat x.fst))) (cond (Nat.beq ((0 : Nat) + (Int.toNat x.fst)) ((0 : Nat) + (Int.toNat x.fst))) y1.snd.snd.AA.tail (x.snd.rings.get ((0 : Nat) + (Int.toNat x.fst))).x.AA.tail) (cond (Nat.beq i4 ((0 : Nat) + (Int.toNat x.fst))) y1.snd.snd.AA.tail (x.snd.rings.get i4).x.AA.tail)) (Sl.mk (cond (Nat.beq i4 ((0 : Nat) + (Int.toNat x.fst))) (cond (Nat.beq ((0 : Nat) + (Int.toNat x.fst)) ((0 : Nat) + (Int.toNat x.fst))) y1.snd.snd.AA.AD.nil (x.snd.rings.get ((0 : Nat) + (Int.toNat x.fst))).x.AA.AD.nil) (cond (Nat.beq i4 ((0 : Nat) + (Int.toNat x.fst))) y1.snd.snd.AA.AD.nil (x.snd.rings.get i4).x.AA.AD.nil)) (cond (Nat.beq i4 ((0 : Nat) + (Int.toNat x.fst))) (cond (Nat.beq ((0 : Nat) + (Int.toNat x.fst)) ((0 : Nat) + (Int.toNat x.fst))) y1.snd.snd.AA.AD.n (x.snd.rings.get ((0 : Nat) + (Int.toNat x.fst))).x.AA.AD.n) (cond (Nat.beq i4 ((0 : Nat) + (Int.toNat x.fst))) y1.snd.snd.AA.AD.n (x.snd.rings.get i4).x.AA.AD.n)) (fun i5 => (cond (Nat.beq i4 ((0 : Nat) + (Int.toNat x.fst))) (cond (Nat.beq ((0 : Nat) + (Int.toNat x.fst)) ((0 : Nat) + (Int.toNat x.fst))) (y1.snd.snd.AA.AD.get i5) ((x.snd.rings.get ((0 : Nat) + (Int.toNat x.fst))).x.AA.AD.get i5)) (cond (Nat.beq i4 ((0 : Nat) + (Int.toNat x.fst))) (y1.snd.snd.AA.AD.get i5) ((x.snd.rings.get i4).x.AA.AD.get i5)))))) (Bx.mk (cond (Nat.beq i4 ((0 : Nat) + (Int.toNat x.fst))) (cond (Nat.beq ((0 : Nat) + (Int.toNat x.fst)) ((0 : Nat) + (Int.toNat x.fst))) y1.snd.snd.s.nil (x.snd.rings.get ((0 : Nat) + (Int.toNat x.fst))).x.s.nil) (cond (Nat.beq i4 ((0 : Nat) + (Int.toNat x.fst))) y1.snd.snd.s.nil (x.snd.rings.get i4).x.s.nil)) (TSs.mk (Sl.mk (cond (Nat.beq i4 ((0 : Nat) + (Int.toNat x.fst))) (cond (Nat.beq ((0 : Nat) + (Int.toNat x.fst)) ((0 : Nat) + (Int.toNat x.fst))) y1.snd.snd.s.x.l.nil (x.snd.rings.get ((0 : Nat) + (Int.toNat x.fst))).x.s.x.l.nil) (cond (Nat.beq i4 ((0 : Nat) + (Int.toNat x.fst))) y1.snd.snd.s.x.l.nil (x.snd.rings.get i4).x.s.x.l.nil)) (cond (Nat.beq i4 ((0 : Nat) + (Int.toNat x.fst))) (cond (Nat.beq ((0 : Nat) + (Int.toNat x.fst)) ((0 : Nat) + (Int.toNat x.fst))) y1.snd.snd.s.x.l.n (x.snd.rings.get ((0 : Nat) + (Int.toNat x.fst))).x.s.x.l.n) (cond (Nat.beq i4 ((0 : Nat) + (Int.toNat x.fst))) y1.snd.snd.s.x.l.n (x.snd.rings.get i4).x.s.x.l.n)) (fun i5 => (TSo.mk (cond (Nat.beq i4 ((0 : Nat) + (Int.toNat x.fst))) (cond (Nat.beq ((0 : Nat) + (Int.toNat x.fst)) ((0 : Nat) + (Int.toNat x.fst))) (y1.snd.snd.s.x.l.get i5).AP ((x.snd.rings.get ((0 : Nat) + (Int.toNat x.fst))).x.s.x.l.get i5).AP) (cond (Nat.beq i4 ((0 : Nat) + (Int.toNat x.fst))) (y1.snd.snd.s.x.l.get i5).AP ((x.snd.rings.get i4).x.s.x.l.get i5).AP)) (cond (Nat.beq i4 ((0 : Nat) + (Int.toNat x.fst))) (cond (Nat.beq ((0 : Nat) + (Int.toNat x.fst)) ((0 : Nat) + (Int.toNat x.fst))) (y1.snd.snd.s.x.l.get i5).Value ((x.snd.rings.get ((0 : Nat) + (Int.toNat x.fst))).x.s.x.l.get i5).Value) (cond (Nat.beq i4 ((0 : Nat) + (Int.toNat x.fst))) (y1.snd.snd.s.x.l.get i5).Value ((x.snd.rings.get i4).x.s.x.l.get i5).Value)) (cond (Nat.beq i4 ((0 : Nat) + (Int.toNat x.fst))) (cond (Nat.beq ((0 : Nat) + (Int.toNat x.fst)) ((0 : Nat) + (Int.toNat x.fst))) (y1.snd.snd.s.x.l.get i5).Left ((x.snd.rings.get ((0 : Nat) + (Int.toNat x.fst))).x.s.x.l.get i5).Left) (cond (Nat.beq i4 ((0 : Nat) + (Int.toNat x.fst))) (y1.snd.snd.s.x.l.get i5).Left ((x.snd.rings.get i4).x.s.x.l.get i5).Left))))) (cond (Nat.beq i4 ((0 : Nat) + (Int.toNat x.fst))) (cond (Nat.beq ((0 : Nat) + (Int.toNat x.fst)) ((0 : Nat) + (Int.toNat x.fst))) y1.snd.snd.s.x.AX (x.snd.rings.get ((0 : Nat) + (Int.toNat x.fst))).x.s.x.AX) (cond (Nat.beq i4 ((0 : Nat) + (Int.toNat x.fst))) y1.snd.snd.s.x.AX (x.snd.rings.get i4).x.s.x.AX)))) (cond (Nat.beq i4 ((0 : Nat) + (Int.toNat x.fst))) (cond (Nat.beq ((0 : Nat) + (Int.toNat x.fst)) ((0 : Nat) + (Int.toNat x.fst))) y1.snd.snd.most (x.snd.rings.get ((0 : Nat) + (Int.toNat x.fst))).x.most) (cond (Nat.beq i4 ((0 : Nat) + (Int.toNat x.fst))) y1.snd.snd.most (x.snd.rings.get i4).x.most)) (cond (Nat.beq i4 ((0 : Nat) + (Int.toNat x.fst))) (cond (Nat.beq ((0 : Nat) + (Int.toNat x.fst)) ((0 : Nat) + (Int.toNat x.fst))) y1.snd.snd.closed (x.snd.rings.get ((0 : Nat) + (Int.toNat x.fst))).x.closed) (cond (Nat.beq i4 ((0 : Nat) + (Int.toNat x.fst))) y1.snd.snd.closed (x.snd.rings.get i4).x.closed)))))) x.snd.now x.snd.reads x.snd.ended))))))))))))))))))
theorem sd_f2c (x : X_f2c) : (tt_f2c x).AJ :=
 (TT.sN (TT.sN (TT.sC fun _ => (TT.sN (TT.sS rfl (TT.sN (TT.sI TT.sR (TT.sN (TT.sN (TT.sC fun _ => (TT.sN (TT.sS rfl (TT.sN (TT.sN (TT.sC fun _ => (TT.sI (TT.sN (TT.sN (TT.sN TT.sR))) TT.sR))))))))))))))))
def D_f2c : AU X_f2c R_f2c := .of tt_f2c
def con_f2c : BC Tryz.prog :=
 Br 118 J_f2c S_f2c D_f2c 2 1 [.any, .any] (lk mxk lbn sd_f2c)
abbrev X_f2y : Type := Int × Int × TSs
abbrev R_f2y : Type := Int × TSs
def J_f2y : BH Tryz.prog :=
 BN Tryz.prog Tryz.f166 43 [] [(8, [.close (.loc 14 0)]), (10, [.close (.loc 14 0)]), (11, [.close (.loc 14 0)])] [(5, [.IC (.par 0) [.B8 0 0] 14])] [.close (.loc 14 0)] [.any] [sh_TSs] [con_fv, con_f2q, con_f39] R_f2y [(0, [⟨.loc 14 0, .par 0, [.B8 0 0], none, none⟩])] fun y => [(V.int .i64) y.1, e_TSs y.2]
def S_f2y : AO :=
 Ah Tryz.f166 3 1 X_f2y (fun x => [(V.ptr (.par 0) []), (V.int .u64) x.1, (V.int .u64) x.2.1, e_TSs x.2.2]) fun l => (dI (at_ l 1), dI (at_ l 2), d_TSs (at_ l 3))
def tt_f2y (x : X_f2y) : TT Tryz.prog R_f2y :=
 (.ite (Bm 4611686018427387904 x.fst)
 (.ret (1, x.snd.snd))
 (.call con_fv (x.fst, ((TSs_L0.mk (Ln.mk x.snd.snd.l.nil x.snd.snd.l.n) x.snd.snd.AX), (Ar.mk x.snd.snd.l.n x.snd.snd.l.get))) fun (y1 : R_fv) =>
 (.need ((Nat.beq x.snd.snd.l.n y1.snd) && true) <|
 (.call con_f2q x.fst fun (y2 : R_f2q) =>
 (.ite (Bg (x.snd.snd.l.get y1.fst).AP y2)
 (.need ((true && true) && (Nat.beq x.snd.snd.l.n x.snd.snd.l.n)) <|
 (.ret (8, x.snd.snd)))
 (.need ((Nat.beq x.snd.snd.l.n y1.snd) && true) <|
 (.call con_f2q x.fst fun (y3 : R_f2q) =>
 (.ite (Bg y3 (x.snd.snd.l.get y1.fst).AP)
 (.need ((true && true) && (Nat.beq x.snd.snd.l.n x.snd.snd.l.n)) <|
 (.ret (11, x.snd.snd)))
 (.call con_f39 x.fst fun (y4 : R_f39) =>
 (.need (Bm 0 x.snd.snd.AX) <|
 (.need ((Nat.beq x.snd.snd.l.n y1.snd) && true) <|
 (.need ((true && true) && (Nat.beq x.snd.snd.l.n x.snd.snd.l.n)) <|
 (.ret (0, (TSs.mk (Sl.mk x.snd.snd.l.nil x.snd.snd.l.n (fun i5 => (TSo.mk (cond (Nat.beq i5 y1.fst) y4 (x.snd.snd.l.get i5).AP) (cond (Nat.beq i5 y1.fst) x.snd.fst (x.snd.snd.l.get i5).Value) (cond (Nat.beq i5 y1.fst) (IntKind.i64.wrap ((shl IntKind.i64 1 x.snd.snd.AX) - 1)) (x.snd.snd.l.get i5).Left)))) x.snd.snd.AX)))))))))))))))
theorem sd_f2y (x : X_f2y) : (tt_f2y x).AJ :=
 (TT.sI TT.sR (TT.sC fun _ => (TT.sN (TT.sC fun _ => (TT.sI (TT.sN TT.sR) (TT.sN (TT.sC fun _ => (TT.sI (TT.sN TT.sR) (TT.sC fun _ => (TT.sN (TT.sN (TT.sN TT.sR))))))))))))
def D_f2y : AU X_f2y R_f2y := .of tt_f2y
def con_f2y : BC Tryz.prog :=
 Br 166 J_f2y S_f2y D_f2y 3 1 [.any, .any, .any] (lk mxk lbn sd_f2y)
abbrev X_f2m : Type := Int × Int × TRr
abbrev R_f2m : Type := Int × TRr
def J_f2m : BH Tryz.prog :=
 BN Tryz.prog Tryz.f119 25 [] [] [] [.close (.loc 21 0)] [.any] [sh_TRr] [con_f2y] R_f2m [] fun y => [(V.int .i64) y.1, e_TRr y.2]
def S_f2m : AO :=
 Ah Tryz.f119 3 1 X_f2m (fun x => [(V.ptr (.par 0) []), (V.int .u64) x.1, (V.int .u64) x.2.1, e_TRr x.2.2]) fun l => (dI (at_ l 1), dI (at_ l 2), d_TRr (at_ l 3))
def tt_f2m (x : X_f2m) : TT Tryz.prog R_f2m :=
 (.ite (Bm x.snd.snd.AA.tail x.fst)
 (.ret (11, x.snd.snd))
 (.need (true && (!x.snd.snd.s.nil)) <|
 (.call con_f2y (x.fst, (x.snd.fst, x.snd.snd.s.x)) fun (y1 : R_f2y) =>
 (.ret (y1.fst, (TRr.mk x.snd.snd.AA (Bx.mk false y1.snd) x.snd.snd.most x.snd.snd.closed))))))
theorem sd_f2m (x : X_f2m) : (tt_f2m x).AJ :=
 (TT.sI TT.sR (TT.sN (TT.sC fun _ => TT.sR)))
def D_f2m : AU X_f2m R_f2m := .of tt_f2m
def con_f2m : BC Tryz.prog :=
 Br 119 J_f2m S_f2m D_f2m 3 1 [.any, .any, .any] (lk mxk lbn sd_f2m)
abbrev X_f1d : Type := Int × TRr
abbrev R_f1d : Type := Int × Int × TRr
def J_f1d : BH Tryz.prog :=
 BN Tryz.prog Tryz.f120 49 [] [(10, [.close (.loc 34 0)])] [] [.close (.loc 44 0), .close (.loc 34 0)] [.any, .any] [sh_TRr] [con_f18, con_fz] R_f1d [] fun y => [V.CN (V.cons ((V.int .u64) y.1) (V.cons ((V.int .i64) y.2.1) (V.unit))), e_TRr y.2.2]
def S_f1d : AO :=
 Ah Tryz.f120 2 1 X_f1d (fun x => [(V.ptr (.par 0) []), (V.int .i64) x.1, e_TRr x.2]) fun l => (dI (at_ l 1), d_TRr (at_ l 2))
structure X_f1d_9 where
 FF : Int
 Ag : TRr
def S_f1d_9 : AO :=
 Ad Tryz.f120 9 (an [0, 1]) [sh_TRr] [] X_f1d_9 (fun x => [(V.ptr (.par 0) []), (V.int .i64) x.FF, e_TRr x.Ag]) fun l => ⟨dI (at_ l 1), d_TRr (at_ l 2)⟩
def tt_f1d_9 (x : X_f1d_9) : TT Tryz.prog R_f1d :=
 (.need (A3 x.FF x.Ag.AA.AD.n) <|
 (.need ((Nat.beq x.Ag.AA.AD.n x.Ag.AA.AD.n) && true) <|
 (.need (A3 x.FF x.Ag.AA.AD.n) <|
 (.need ((Nat.beq x.Ag.AA.AD.n x.Ag.AA.AD.n) && true) <|
 (.need ((true && true) && (Nat.beq x.Ag.AA.AD.n x.Ag.AA.AD.n)) <|
 (.need (A3 x.FF x.Ag.AA.AD.n) <|
 (.need ((Nat.beq x.Ag.AA.AD.n x.Ag.AA.AD.n) && true) <|
 (.need ((true && true) && (Nat.beq x.Ag.AA.AD.n x.Ag.AA.AD.n)) <|
 (.ret ((IntKind.u64.wrap ((cond (Nat.beq ((0 : Nat) + (Int.toNat x.FF)) ((0 : Nat) + (Int.toNat x.FF))) (IntKind.u64.wrap ((x.Ag.AA.AD.get ((0 : Nat) + (Int.toNat x.FF))) + 1)) (x.Ag.AA.AD.get ((0 : Nat) + (Int.toNat x.FF)))) - 1)), (0, (TRr.mk (TRc.mk x.Ag.AA.tail (Sl.mk x.Ag.AA.AD.nil x.Ag.AA.AD.n (fun i1 => (cond (Nat.beq i1 ((0 : Nat) + (Int.toNat x.FF))) (IntKind.u64.wrap ((x.Ag.AA.AD.get ((0 : Nat) + (Int.toNat x.FF))) + 1)) (x.Ag.AA.AD.get i1))))) x.Ag.s x.Ag.most x.Ag.closed))))))))))))
theorem sd_f1d_9 (x : X_f1d_9) : (tt_f1d_9 x).AJ :=
 (TT.sN (TT.sN (TT.sN (TT.sN (TT.sN (TT.sN (TT.sN (TT.sN TT.sR))))))))
def D_f1d_9 : AU X_f1d_9 R_f1d := .of tt_f1d_9
theorem ok_f1d_9 : AY J_f1d S_f1d_9 D_f1d_9 :=
 lk mxk lbn sd_f1d_9
def tt_f1d (x : X_f1d) : TT Tryz.prog R_f1d :=
 (.call con_fz (x.fst, x.snd.AA) fun (y1 : R_fz) =>
 (.ite (!y1)
 (.ret (0, (1, x.snd)))
 (.call con_f18 x fun (y2 : R_f18) =>
 (.ite y2
 (.ite x.snd.closed
 (.ret (0, (10, x.snd)))
 (.call con_f18 x fun (y3 : R_f18) =>
 (.ite y3
 (.ret (0, (9, x.snd)))
 (.AM S_f1d_9 D_f1d_9 (X_f1d_9.mk x.fst x.snd)))))
 (.call con_f18 x fun (y3 : R_f18) =>
 (.ite y3
 (.ret (0, (9, x.snd)))
 (.AM S_f1d_9 D_f1d_9 (X_f1d_9.mk x.fst x.snd))))))))
theorem sd_f1d (x : X_f1d) : (tt_f1d x).AJ :=
 (TT.sC fun _ => (TT.sI TT.sR (TT.sC fun _ => (TT.sI (TT.sI TT.sR (TT.sC fun _ => (TT.sI TT.sR TT.sJ))) (TT.sC fun _ => (TT.sI TT.sR TT.sJ))))))
def D_f1d : AU X_f1d R_f1d := .of tt_f1d
def con_f1d : BC Tryz.prog :=
 Br 120 J_f1d S_f1d D_f1d 2 1 [.any, .any] (lk mxk (lbc ok_f1d_9 rfl lbn) sd_f1d)
abbrev X_f2z : Type := Int × Int × TSs
abbrev R_f2z : Type := Int × Int × TSs
def J_f2z : BH Tryz.prog :=
 BN Tryz.prog Tryz.f167 52 [] [(9, [.close (.loc 44 0), .close (.loc 20 0)])] [(4, [.IC (.par 0) [.B8 0 0] 20])] [.close (.loc 44 0), .close (.loc 20 0)] [.any, .any] [sh_TSs] [con_fo, con_fv, con_f2q] R_f2z [(0, [⟨.loc 20 0, .par 0, [.B8 0 0], none, none⟩])] fun y => [V.CN (V.cons ((V.int .u64) y.1) (V.cons ((V.int .i64) y.2.1) (V.unit))), e_TSs y.2.2]
def S_f2z : AO :=
 Ah Tryz.f167 3 1 X_f2z (fun x => [(V.ptr (.par 0) []), (V.int .i64) x.1, (V.int .u64) x.2.1, e_TSs x.2.2]) fun l => (dI (at_ l 1), dI (at_ l 2), d_TSs (at_ l 3))
def tt_f2z (x : X_f2z) : TT Tryz.prog R_f2z :=
 (.call con_fo x fun (y1 : R_fo) =>
 (.ite (!(AW y1 0))
 (.ret (0, (y1, x.snd.snd)))
 (.call con_fv (x.snd.fst, ((TSs_L0.mk (Ln.mk x.snd.snd.l.nil x.snd.snd.l.n) x.snd.snd.AX), (Ar.mk x.snd.snd.l.n x.snd.snd.l.get))) fun (y2 : R_fv) =>
 (.need ((Nat.beq x.snd.snd.l.n y2.snd) && true) <|
 (.need ((Nat.beq x.snd.snd.l.n y2.snd) && true) <|
 (.need (Bm 0 x.fst) <|
 (.need ((Nat.beq x.snd.snd.l.n y2.snd) && true) <|
 (.need ((Nat.beq x.snd.snd.l.n y2.snd) && true) <|
 (.ite (AW (cond (Nat.beq y2.fst y2.fst) (Vm.bits .andNot IntKind.i64 (x.snd.snd.l.get y2.fst).Left (shl IntKind.i64 1 x.fst)) (x.snd.snd.l.get y2.fst).Left) 0)
 (.call con_f2q (IntKind.u64.wrap (x.snd.fst + (IntKind.u64.wrap ((x.snd.snd.l.n : Nat) : Int)))) fun (y3 : R_f2q) =>
 (.need ((Nat.beq x.snd.snd.l.n y2.snd) && true) <|
 (.need ((true && true) && (Nat.beq x.snd.snd.l.n x.snd.snd.l.n)) <|
 (.ret ((x.snd.snd.l.get y2.fst).Value, (0, (TSs.mk (Sl.mk x.snd.snd.l.nil x.snd.snd.l.n (fun i4 => (TSo.mk (cond (Nat.beq i4 y2.fst) y3 (cond (Nat.beq i4 y2.fst) (x.snd.snd.l.get y2.fst).AP (x.snd.snd.l.get i4).AP)) (cond (Nat.beq i4 y2.fst) (0 : Int) (cond (Nat.beq i4 y2.fst) (x.snd.snd.l.get y2.fst).Value (x.snd.snd.l.get i4).Value)) (cond (Nat.beq i4 y2.fst) (0 : Int) (cond (Nat.beq i4 y2.fst) (Vm.bits .andNot IntKind.i64 (x.snd.snd.l.get y2.fst).Left (shl IntKind.i64 1 x.fst)) (x.snd.snd.l.get i4).Left))))) x.snd.snd.AX)))))))
 (.need ((true && true) && (Nat.beq x.snd.snd.l.n x.snd.snd.l.n)) <|
 (.ret ((x.snd.snd.l.get y2.fst).Value, (0, (TSs.mk (Sl.mk x.snd.snd.l.nil x.snd.snd.l.n (fun i3 => (TSo.mk (cond (Nat.beq i3 y2.fst) (x.snd.snd.l.get y2.fst).AP (x.snd.snd.l.get i3).AP) (cond (Nat.beq i3 y2.fst) (x.snd.snd.l.get y2.fst).Value (x.snd.snd.l.get i3).Value) (cond (Nat.beq i3 y2.fst) (Vm.bits .andNot IntKind.i64 (x.snd.snd.l.get y2.fst).Left (shl IntKind.i64 1 x.fst)) (x.snd.snd.l.get i3).Left)))) x.snd.snd.AX))))))))))))))
theorem sd_f2z (x : X_f2z) : (tt_f2z x).AJ :=
 (TT.sC fun _ => (TT.sI TT.sR (TT.sC fun _ => (TT.sN (TT.sN (TT.sN (TT.sN (TT.sN (TT.sI (TT.sC fun _ => (TT.sN (TT.sN TT.sR))) (TT.sN TT.sR))))))))))
def D_f2z : AU X_f2z R_f2z := .of tt_f2z
def con_f2z : BC Tryz.prog :=
 Br 167 J_f2z S_f2z D_f2z 3 1 [.any, .any, .any] (lk mxk lbn sd_f2z)
abbrev X_f2n : Type := Int × Int × TRr
abbrev R_f2n : Type := Int × Int × TRr
def J_f2n : BH Tryz.prog :=
 BN Tryz.prog Tryz.f121 38 [] [(6, [.close (.loc 24 0)]), (7, [.close (.loc 24 0)])] [] [.close (.loc 32 0), .close (.loc 24 0)] [.any, .any] [sh_TRr] [con_fz, con_f2z] R_f2n [] fun y => [V.CN (V.cons ((V.int .u64) y.1) (V.cons ((V.int .i64) y.2.1) (V.unit))), e_TRr y.2.2]
def S_f2n : AO :=
 Ah Tryz.f121 3 1 X_f2n (fun x => [(V.ptr (.par 0) []), (V.int .i64) x.1, (V.int .u64) x.2.1, e_TRr x.2.2]) fun l => (dI (at_ l 1), dI (at_ l 2), d_TRr (at_ l 3))
def tt_f2n (x : X_f2n) : TT Tryz.prog R_f2n :=
 (.call con_fz (x.fst, x.snd.snd.AA) fun (y1 : R_fz) =>
 (.ite (!y1)
 (.ret (0, (1, x.snd.snd)))
 (.need (A3 x.fst x.snd.snd.AA.AD.n) <|
 (.need ((Nat.beq x.snd.snd.AA.AD.n x.snd.snd.AA.AD.n) && true) <|
 (.ite (Bm (x.snd.snd.AA.AD.get ((0 : Nat) + (Int.toNat x.fst))) x.snd.fst)
 (.need ((true && true) && (Nat.beq x.snd.snd.AA.AD.n x.snd.snd.AA.AD.n)) <|
 (.ret (0, (11, x.snd.snd))))
 (.need ((true && true) && (Nat.beq x.snd.snd.AA.AD.n x.snd.snd.AA.AD.n)) <|
 (.need (true && (!x.snd.snd.s.nil)) <|
 (.call con_f2z (x.fst, (x.snd.fst, x.snd.snd.s.x)) fun (y2 : R_f2z) =>
 (.ret (y2.fst, (y2.snd.fst, (TRr.mk x.snd.snd.AA (Bx.mk false y2.snd.snd) x.snd.snd.most x.snd.snd.closed))))))))))))
theorem sd_f2n (x : X_f2n) : (tt_f2n x).AJ :=
 (TT.sC fun _ => (TT.sI TT.sR (TT.sN (TT.sN (TT.sI (TT.sN TT.sR) (TT.sN (TT.sN (TT.sC fun _ => TT.sR))))))))
def D_f2n : AU X_f2n R_f2n := .of tt_f2n
def con_f2n : BC Tryz.prog :=
 Br 121 J_f2n S_f2n D_f2n 3 1 [.any, .any, .any] (lk mxk lbn sd_f2n)
abbrev X_f30 : Type := TRr
abbrev R_f30 : Type := Int × TRr
def J_f30 : BH Tryz.prog :=
 BN Tryz.prog Tryz.f122 8 [] [] [] [] [.any] [sh_TRr] [] R_f30 [] fun y => [(V.int .i64) y.1, e_TRr y.2]
def S_f30 : AO :=
 Ah Tryz.f122 1 1 X_f30 (fun x => [(V.ptr (.par 0) []), e_TRr x]) fun l => (d_TRr (at_ l 1))
def tt_f30 (x : X_f30) : TT Tryz.prog R_f30 :=
 (.ret (0, (TRr.mk x.AA x.s x.most true)))
theorem sd_f30 (x : X_f30) : (tt_f30 x).AJ :=
 TT.sR
def D_f30 : AU X_f30 R_f30 := .of tt_f30
def con_f30 : BC Tryz.prog :=
 Br 122 J_f30 S_f30 D_f30 1 1 [.any] (lk mxk lbn sd_f30)
abbrev X_fe : Type := TEv × TFa
abbrev R_fe : Type := TFa
def J_fe : BH Tryz.prog :=
 BN Tryz.prog Tryz.f64 131 [(3, 3), (48, 1), (101, 1)] [(8, [.close (.loc 27 0), .close (.loc 23 0)]), (9, [.close (.loc 27 0), .close (.loc 23 0)]), (10, [.close (.loc 42 0), .close (.loc 38 0), .close (.loc 27 0), .close (.loc 23 0)]), (11, [.close (.loc 42 0), .close (.loc 38 0), .close (.loc 27 0), .close (.loc 23 0)]), (12, [.close (.loc 56 0), .close (.loc 52 0), .close (.loc 42 0), .close (.loc 38 0), .close (.loc 27 0), .close (.loc 23 0)]), (13, [.close (.loc 56 0), .close (.loc 52 0), .close (.loc 42 0), .close (.loc 38 0), .close (.loc 27 0), .close (.loc 23 0)]), (14, [.close (.loc 73 0), .close (.loc 69 0), .close (.loc 56 0), .close (.loc 52 0), .close (.loc 42 0), .close (.loc 38 0), .close (.loc 27 0), .close (.loc 23 0)]), (15, [.close (.loc 73 0), .close (.loc 69 0), .close (.loc 56 0), .close (.loc 52 0), .close (.loc 42 0), .close (.loc 38 0), .close (.loc 27 0), .close (.loc 23 0)]), (16, [.close (.loc 73 0), .close (.loc 69 0), .close (.loc 56 0), .close (.loc 52 0), .close (.loc 42 0), .close (.loc 38 0), .close (.loc 27 0), .close (.loc 23 0)]), (17, [.close (.loc 73 0), .close (.loc 69 0), .close (.loc 56 0), .close (.loc 52 0), .close (.loc 42 0), .close (.loc 38 0), .close (.loc 27 0), .close (.loc 23 0)]), (18, [.close (.loc 73 0), .close (.loc 69 0), .close (.loc 56 0), .close (.loc 52 0), .close (.loc 42 0), .close (.loc 38 0), .close (.loc 27 0), .close (.loc 23 0)]), (19, [.close (.loc 73 0), .close (.loc 69 0), .close (.loc 56 0), .close (.loc 52 0), .close (.loc 42 0), .close (.loc 38 0), .close (.loc 27 0), .close (.loc 23 0)]), (20, [.close (.loc 73 0), .close (.loc 69 0), .close (.loc 56 0), .close (.loc 52 0), .close (.loc 42 0), .close (.loc 38 0), .close (.loc 27 0), .close (.loc 23 0)])] [(7, [.IC (.par 0) [.B8 2 3] 23]), (9, [.IC (.par 0) [.B8 2 3] 38]), (11, [.IC (.par 0) [.B8 2 3] 52]), (13, [.IC (.par 0) [.B8 2 3] 69]), (20, [.IC (.par 0) [.B8 1 2] 105, .IC (.par 0) [.B8 1 2] 120])] [.close (.loc 120 0), .close (.loc 105 0), .close (.loc 73 0), .close (.loc 69 0), .close (.loc 56 0), .close (.loc 52 0), .close (.loc 42 0), .close (.loc 38 0), .close (.loc 27 0), .close (.loc 23 0)] [] [sh_TFa] [con_f1c, con_f2c, con_f30, con_f2m, con_f2n, con_f1d, con_f28] R_fe [(0, [⟨.loc 23 0, .par 0, [.B8 2 3], none, none⟩, ⟨.loc 38 0, .par 0, [.B8 2 3], none, none⟩, ⟨.loc 52 0, .par 0, [.B8 2 3], none, none⟩, ⟨.loc 69 0, .par 0, [.B8 2 3], none, none⟩, ⟨.loc 105 0, .par 0, [.B8 1 2], none, none⟩, ⟨.loc 120 0, .par 0, [.B8 1 2], none, none⟩]), (20, [⟨.loc 23 0, .par 0, [.B8 2 3], none, none⟩, ⟨.loc 38 0, .par 0, [.B8 2 3], none, none⟩, ⟨.loc 52 0, .par 0, [.B8 2 3], none, none⟩, ⟨.loc 69 0, .par 0, [.B8 2 3], none, none⟩, ⟨.loc 105 0, .par 0, [.B8 1 2], none, none⟩, ⟨.loc 120 0, .par 0, [.B8 1 2], none, none⟩])] fun y => [V.CN (V.unit), e_TFa y]
def S_fe : AO :=
 Ah Tryz.f64 2 1 X_fe (fun x => [(V.ptr (.par 0) []), e_TEv x.1, e_TFa x.2]) fun l => (d_TEv (at_ l 1), d_TFa (at_ l 2))
structure X_fe_20 where
 Di : TEv
 v_5 : Int
 Ag : TFa
def S_fe_20 : AO :=
 Ad Tryz.f64 20 (an [0, 3, 5]) [sh_TFa] [] X_fe_20 (fun x => [(V.ptr (.par 0) []), (CU e_TEv) x.Di, (V.int .u64) x.v_5, e_TFa x.Ag]) fun l => ⟨(CV d_TEv) (at_ l 1), dI (at_ l 2), d_TFa (at_ l 3)⟩
def tt_fe_20 (x : X_fe_20) : TT Tryz.prog R_fe :=
 (.need (A3 x.Di.Thread x.Ag.p.AB.n) <|
 (.need (A3 x.Di.Thread x.Ag.threads.n) <|
 (.need ((Nat.beq x.Ag.threads.n x.Ag.threads.n) && true) <|
 (.call con_f28 ((x.Ag.p.AB.get (Int.toNat x.Di.Thread)), ((x.Ag.threads.get ((0 : Nat) + (Int.toNat x.Di.Thread))), (x.Di, x.v_5))) fun (y1 : R_f28) =>
 (.need (A3 x.Di.Thread x.Ag.threads.n) <|
 (.need ((Nat.beq x.Ag.threads.n x.Ag.threads.n) && true) <|
 (.need ((true && true) && (Nat.beq x.Ag.threads.n x.Ag.threads.n)) <|
 (.ret (TFa.mk x.Ag.p (Sl.mk x.Ag.threads.nil x.Ag.threads.n (fun i2 => (TTh.mk (cond (Nat.beq i2 ((0 : Nat) + (Int.toNat x.Di.Thread))) y1.fst.At (x.Ag.threads.get i2).At) (cond (Nat.beq i2 ((0 : Nat) + (Int.toNat x.Di.Thread))) y1.fst.Phase (x.Ag.threads.get i2).Phase) (cond (Nat.beq i2 ((0 : Nat) + (Int.toNat x.Di.Thread))) y1.fst.Ring (x.Ag.threads.get i2).Ring) (cond (Nat.beq i2 ((0 : Nat) + (Int.toNat x.Di.Thread))) y1.fst.Status (x.Ag.threads.get i2).Status) (cond (Nat.beq i2 ((0 : Nat) + (Int.toNat x.Di.Thread))) y1.fst.AG (x.Ag.threads.get i2).AG) (fun i3 => (cond (Nat.beq i2 ((0 : Nat) + (Int.toNat x.Di.Thread))) (y1.fst.Ae i3) ((x.Ag.threads.get i2).Ae i3))) (Sl.mk (cond (Nat.beq i2 ((0 : Nat) + (Int.toNat x.Di.Thread))) y1.fst.Seen.nil (x.Ag.threads.get i2).Seen.nil) (cond (Nat.beq i2 ((0 : Nat) + (Int.toNat x.Di.Thread))) y1.fst.Seen.n (x.Ag.threads.get i2).Seen.n) (fun i3 => (cond (Nat.beq i2 ((0 : Nat) + (Int.toNat x.Di.Thread))) (y1.fst.Seen.get i3) ((x.Ag.threads.get i2).Seen.get i3))))))) x.Ag.rings x.Ag.now x.Ag.reads x.Ag.ended)))))))))
theorem sd_fe_20 (x : X_fe_20) : (tt_fe_20 x).AJ :=
 (TT.sN (TT.sN (TT.sN (TT.sC fun _ => (TT.sN (TT.sN (TT.sN TT.sR)))))))
def D_fe_20 : AU X_fe_20 R_fe := .of tt_fe_20
theorem ok_fe_20 : AY J_fe S_fe_20 D_fe_20 :=
 lk mxk lbn sd_fe_20
def tt_fe (x : X_fe) : TT Tryz.prog R_fe :=
 (.call con_f1c (x.fst.Thread, x.snd) fun (y1 : R_f1c) =>
 (.ite (AW x.fst.Kind 1)
 (.call con_f2c (x.fst.Ring, x.snd) fun (y2 : R_f2c) =>
 (.AM S_fe_20 D_fe_20 (X_fe_20.mk x.fst 0 y2)))
 (.ite (AW x.fst.Kind 2)
 (.need (A3 x.fst.Ring x.snd.rings.n) <|
 (.need (((Nat.beq x.snd.rings.n x.snd.rings.n) && true) && (!(x.snd.rings.get ((0 : Nat) + (Int.toNat x.fst.Ring))).nil)) <|
 (.call con_f2m (x.fst.AG, (y1.Value, (x.snd.rings.get ((0 : Nat) + (Int.toNat x.fst.Ring))).x)) fun (y2 : R_f2m) =>
 (.need ((true && true) && ((Nat.beq x.snd.rings.n x.snd.rings.n) && (Nat.blt ((0 : Nat) + (Int.toNat x.fst.Ring)) x.snd.rings.n))) <|
 (.side ((fun v : Nat → V => v = v) (fun i3 => (cond (Nat.beq i3 ((0 : Nat) + (Int.toNat x.fst.Ring))) (V.ptr (Id.loc 27 0) List.nil) (V.Aj (x.snd.rings.get i3).nil (V.cons (V.cons (V.int IntKind.u64 (x.snd.rings.get i3).x.AA.tail) (V.cons (V.A7 36 1 (x.snd.rings.get i3).x.AA.AD.nil (x.snd.rings.get i3).x.AA.AD.n (fun i4 => (V.int IntKind.u64 ((x.snd.rings.get i3).x.AA.AD.get i4)))) V.unit)) (V.cons (V.Aj (x.snd.rings.get i3).x.s.nil (V.cons (V.A7 175 3 (x.snd.rings.get i3).x.s.x.l.nil (x.snd.rings.get i3).x.s.x.l.n (fun i4 => (V.cons (V.int IntKind.u64 ((x.snd.rings.get i3).x.s.x.l.get i4).AP) (V.cons (V.int IntKind.u64 ((x.snd.rings.get i3).x.s.x.l.get i4).Value) (V.cons (V.int IntKind.i64 ((x.snd.rings.get i3).x.s.x.l.get i4).Left) V.unit))))) (V.cons (V.int IntKind.i64 (x.snd.rings.get i3).x.s.x.AX) V.unit))) (V.cons (V.int IntKind.u64 (x.snd.rings.get i3).x.most) (V.cons (V.bool (x.snd.rings.get i3).x.closed) V.unit)))))))) <|
 (.need ((true && true) && (Nat.beq x.snd.rings.n x.snd.rings.n)) <|
 (.AM S_fe_20 D_fe_20 (X_fe_20.mk x.fst 0 (TFa.mk x.snd.p x.snd.threads (Sl.mk x.snd.rings.nil x.snd.rings.n (fun i3 => (Bx.mk (cond (Nat.beq i3 ((0 : Nat) + (Int.toNat x.fst.Ring))) false (x.snd.rings.get i3).nil) (TRr.mk (TRc.mk (cond (Nat.beq i3 ((0 : Nat) + (Int.toNat x.fst.Ring))) y2.snd.AA.tail (x.snd.rings.get i3).x.AA.tail) (Sl.mk (cond (Nat.beq i3 ((0 : Nat) + (Int.toNat x.fst.Ring))) y2.snd.AA.AD.nil (x.snd.rings.get i3).x.AA.AD.nil) (cond (Nat.beq i3 ((0 : Nat) + (Int.toNat x.fst.Ring))) y2.snd.AA.AD.n (x.snd.rings.get i3).x.AA.AD.n) (fun i4 => (cond (Nat.beq i3 ((0 : Nat) + (Int.toNat x.fst.Ring))) (y2.snd.AA.AD.get i4) ((x.snd.rings.get i3).x.AA.AD.get i4))))) (Bx.mk (cond (Nat.beq i3 ((0 : Nat) + (Int.toNat x.fst.Ring))) y2.snd.s.nil (x.snd.rings.get i3).x.s.nil) (TSs.mk (Sl.mk (cond (Nat.beq i3 ((0 : Nat) + (Int.toNat x.fst.Ring))) y2.snd.s.x.l.nil (x.snd.rings.get i3).x.s.x.l.nil) (cond (Nat.beq i3 ((0 : Nat) + (Int.toNat x.fst.Ring))) y2.snd.s.x.l.n (x.snd.rings.get i3).x.s.x.l.n) (fun i4 => (TSo.mk (cond (Nat.beq i3 ((0 : Nat) + (Int.toNat x.fst.Ring))) (y2.snd.s.x.l.get i4).AP ((x.snd.rings.get i3).x.s.x.l.get i4).AP) (cond (Nat.beq i3 ((0 : Nat) + (Int.toNat x.fst.Ring))) (y2.snd.s.x.l.get i4).Value ((x.snd.rings.get i3).x.s.x.l.get i4).Value) (cond (Nat.beq i3 ((0 : Nat) + (Int.toNat x.fst.Ring))) (y2.snd.s.x.l.get i4).Left ((x.snd.rings.get i3).x.s.x.l.get i4).Left)))) (cond (Nat.beq i3 ((0 : Nat) + (Int.toNat x.fst.Ring))) y2.snd.s.x.AX (x.snd.rings.get i3).x.s.x.AX))) (cond (Nat.beq i3 ((0 : Nat) + (Int.toNat x.fst.Ring))) y2.snd.most (x.snd.rings.get i3).x.most) (cond (Nat.beq i3 ((0 : Nat) + (Int.toNat x.fst.Ring))) y2.snd.closed (x.snd.rings.get i3).x.closed))))) x.snd.now x.snd.reads x.snd.ended)))))))))
 (.ite (AW x.fst.Kind 3)
 (.need (A3 x.fst.Ring x.snd.rings.n) <|
 (.need (((Nat.beq x.snd.rings.n x.snd.rings.n) && true) && (!(x.snd.rings.get ((0 : Nat) + (Int.toNat x.fst.Ring))).nil)) <|
 (.call con_f1d (y1.Reader, (x.snd.rings.get ((0 : Nat) + (Int.toNat x.fst.Ring))).x) fun (y2 : R_f1d) =>
 (.need ((true && true) && ((Nat.beq x.snd.rings.n x.snd.rings.n) && (Nat.blt ((0 : Nat) + (Int.toNat x.fst.Ring)) x.snd.rings.n))) <|
 (.side ((fun v : Nat → V => v = v) (fun i3 => (cond (Nat.beq i3 ((0 : Nat) + (Int.toNat x.fst.Ring))) (V.ptr (Id.loc 42 0) List.nil) (V.Aj (x.snd.rings.get i3).nil (V.cons (V.cons (V.int IntKind.u64 (x.snd.rings.get i3).x.AA.tail) (V.cons (V.A7 36 1 (x.snd.rings.get i3).x.AA.AD.nil (x.snd.rings.get i3).x.AA.AD.n (fun i4 => (V.int IntKind.u64 ((x.snd.rings.get i3).x.AA.AD.get i4)))) V.unit)) (V.cons (V.Aj (x.snd.rings.get i3).x.s.nil (V.cons (V.A7 175 3 (x.snd.rings.get i3).x.s.x.l.nil (x.snd.rings.get i3).x.s.x.l.n (fun i4 => (V.cons (V.int IntKind.u64 ((x.snd.rings.get i3).x.s.x.l.get i4).AP) (V.cons (V.int IntKind.u64 ((x.snd.rings.get i3).x.s.x.l.get i4).Value) (V.cons (V.int IntKind.i64 ((x.snd.rings.get i3).x.s.x.l.get i4).Left) V.unit))))) (V.cons (V.int IntKind.i64 (x.snd.rings.get i3).x.s.x.AX) V.unit))) (V.cons (V.int IntKind.u64 (x.snd.rings.get i3).x.most) (V.cons (V.bool (x.snd.rings.get i3).x.closed) V.unit)))))))) <|
 (.need ((true && true) && (Nat.beq x.snd.rings.n x.snd.rings.n)) <|
 (.AM S_fe_20 D_fe_20 (X_fe_20.mk x.fst 0 (TFa.mk x.snd.p x.snd.threads (Sl.mk x.snd.rings.nil x.snd.rings.n (fun i3 => (Bx.mk (cond (Nat.beq i3 ((0 : Nat) + (Int.toNat x.fst.Ring))) false (x.snd.rings.get i3).nil) (TRr.mk (TRc.mk (cond (Nat.beq i3 ((0 : Nat) + (Int.toNat x.fst.Ring))) y2.snd.snd.AA.tail (x.snd.rings.get i3).x.AA.tail) (Sl.mk (cond (Nat.beq i3 ((0 : Nat) + (Int.toNat x.fst.Ring))) y2.snd.snd.AA.AD.nil (x.snd.rings.get i3).x.AA.AD.nil) (cond (Nat.beq i3 ((0 : Nat) + (Int.toNat x.fst.Ring))) y2.snd.snd.AA.AD.n (x.snd.rings.get i3).x.AA.AD.n) (fun i4 => (cond (Nat.beq i3 ((0 : Nat) + (Int.toNat x.fst.Ring))) (y2.snd.snd.AA.AD.get i4) ((x.snd.rings.get i3).x.AA.AD.get i4))))) (Bx.mk (cond (Nat.beq i3 ((0 : Nat) + (Int.toNat x.fst.Ring))) y2.snd.snd.s.nil (x.snd.rings.get i3).x.s.nil) (TSs.mk (Sl.mk (cond (Nat.beq i3 ((0 : Nat) + (Int.toNat x.fst.Ring))) y2.snd.snd.s.x.l.nil (x.snd.rings.get i3).x.s.x.l.nil) (cond (Nat.beq i3 ((0 : Nat) + (Int.toNat x.fst.Ring))) y2.snd.snd.s.x.l.n (x.snd.rings.get i3).x.s.x.l.n) (fun i4 => (TSo.mk (cond (Nat.beq i3 ((0 : Nat) + (Int.toNat x.fst.Ring))) (y2.snd.snd.s.x.l.get i4).AP ((x.snd.rings.get i3).x.s.x.l.get i4).AP) (cond (Nat.beq i3 ((0 : Nat) + (Int.toNat x.fst.Ring))) (y2.snd.snd.s.x.l.get i4).Value ((x.snd.rings.get i3).x.s.x.l.get i4).Value) (cond (Nat.beq i3 ((0 : Nat) + (Int.toNat x.fst.Ring))) (y2.snd.snd.s.x.l.get i4).Left ((x.snd.rings.get i3).x.s.x.l.get i4).Left)))) (cond (Nat.beq i3 ((0 : Nat) + (Int.toNat x.fst.Ring))) y2.snd.snd.s.x.AX (x.snd.rings.get i3).x.s.x.AX))) (cond (Nat.beq i3 ((0 : Nat) + (Int.toNat x.fst.Ring))) y2.snd.snd.most (x.snd.rings.get i3).x.most) (cond (Nat.beq i3 ((0 : Nat) + (Int.toNat x.fst.Ring))) y2.snd.snd.closed (x.snd.rings.get i3).x.closed))))) x.snd.now x.snd.reads x.snd.ended)))))))))
 (.ite (AW x.fst.Kind 4)
 (.need (A3 x.fst.Ring x.snd.rings.n) <|
 (.need (((Nat.beq x.snd.rings.n x.snd.rings.n) && true) && (!(x.snd.rings.get ((0 : Nat) + (Int.toNat x.fst.Ring))).nil)) <|
 (.call con_f2n (y1.Reader, (x.fst.AG, (x.snd.rings.get ((0 : Nat) + (Int.toNat x.fst.Ring))).x)) fun (y2 : R_f2n) =>
 (.need ((true && true) && ((Nat.beq x.snd.rings.n x.snd.rings.n) && (Nat.blt ((0 : Nat) + (Int.toNat x.fst.Ring)) x.snd.rings.n))) <|
 (.side ((fun v : Nat → V => v = v) (fun i3 => (cond (Nat.beq i3 ((0 : Nat) + (Int.toNat x.fst.Ring))) (V.ptr (Id.loc 56 0) List.nil) (V.Aj (x.snd.rings.get i3).nil (V.cons (V.cons (V.int IntKind.u64 (x.snd.rings.get i3).x.AA.tail) (V.cons (V.A7 36 1 (x.snd.rings.get i3).x.AA.AD.nil (x.snd.rings.get i3).x.AA.AD.n (fun i4 => (V.int IntKind.u64 ((x.snd.rings.get i3).x.AA.AD.get i4)))) V.unit)) (V.cons (V.Aj (x.snd.rings.get i3).x.s.nil (V.cons (V.A7 175 3 (x.snd.rings.get i3).x.s.x.l.nil (x.snd.rings.get i3).x.s.x.l.n (fun i4 => (V.cons (V.int IntKind.u64 ((x.snd.rings.get i3).x.s.x.l.get i4).AP) (V.cons (V.int IntKind.u64 ((x.snd.rings.get i3).x.s.x.l.get i4).Value) (V.cons (V.int IntKind.i64 ((x.snd.rings.get i3).x.s.x.l.get i4).Left) V.unit))))) (V.cons (V.int IntKind.i64 (x.snd.rings.get i3).x.s.x.AX) V.unit))) (V.cons (V.int IntKind.u64 (x.snd.rings.get i3).x.most) (V.cons (V.bool (x.snd.rings.get i3).x.closed) V.unit)))))))) <|
 (.need ((true && true) && (Nat.beq x.snd.rings.n x.snd.rings.n)) <|
 (.AM S_fe_20 D_fe_20 (X_fe_20.mk x.fst y2.fst (TFa.mk x.snd.p x.snd.threads (Sl.mk x.snd.rings.nil x.snd.rings.n (fun i3 => (Bx.mk (cond (Nat.beq i3 ((0 : Nat) + (Int.toNat x.fst.Ring))) false (x.snd.rings.get i3).nil) (TRr.mk (TRc.mk (cond (Nat.beq i3 ((0 : Nat) + (Int.toNat x.fst.Ring))) y2.snd.snd.AA.tail (x.snd.rings.get i3).x.AA.tail) (Sl.mk (cond (Nat.beq i3 ((0 : Nat) + (Int.toNat x.fst.Ring))) y2.snd.snd.AA.AD.nil (x.snd.rings.get i3).x.AA.AD.nil) (cond (Nat.beq i3 ((0 : Nat) + (Int.toNat x.fst.Ring))) y2.snd.snd.AA.AD.n (x.snd.rings.get i3).x.AA.AD.n) (fun i4 => (cond (Nat.beq i3 ((0 : Nat) + (Int.toNat x.fst.Ring))) (y2.snd.snd.AA.AD.get i4) ((x.snd.rings.get i3).x.AA.AD.get i4))))) (Bx.mk (cond (Nat.beq i3 ((0 : Nat) + (Int.toNat x.fst.Ring))) y2.snd.snd.s.nil (x.snd.rings.get i3).x.s.nil) (TSs.mk (Sl.mk (cond (Nat.beq i3 ((0 : Nat) + (Int.toNat x.fst.Ring))) y2.snd.snd.s.x.l.nil (x.snd.rings.get i3).x.s.x.l.nil) (cond (Nat.beq i3 ((0 : Nat) + (Int.toNat x.fst.Ring))) y2.snd.snd.s.x.l.n (x.snd.rings.get i3).x.s.x.l.n) (fun i4 => (TSo.mk (cond (Nat.beq i3 ((0 : Nat) + (Int.toNat x.fst.Ring))) (y2.snd.snd.s.x.l.get i4).AP ((x.snd.rings.get i3).x.s.x.l.get i4).AP) (cond (Nat.beq i3 ((0 : Nat) + (Int.toNat x.fst.Ring))) (y2.snd.snd.s.x.l.get i4).Value ((x.snd.rings.get i3).x.s.x.l.get i4).Value) (cond (Nat.beq i3 ((0 : Nat) + (Int.toNat x.fst.Ring))) (y2.snd.snd.s.x.l.get i4).Left ((x.snd.rings.get i3).x.s.x.l.get i4).Left)))) (cond (Nat.beq i3 ((0 : Nat) + (Int.toNat x.fst.Ring))) y2.snd.snd.s.x.AX (x.snd.rings.get i3).x.s.x.AX))) (cond (Nat.beq i3 ((0 : Nat) + (Int.toNat x.fst.Ring))) y2.snd.snd.most (x.snd.rings.get i3).x.most) (cond (Nat.beq i3 ((0 : Nat) + (Int.toNat x.fst.Ring))) y2.snd.snd.closed (x.snd.rings.get i3).x.closed))))) x.snd.now x.snd.reads x.snd.ended)))))))))
 (.ite (AW x.fst.Kind 13)
 (.need (A3 x.fst.Ring x.snd.rings.n) <|
 (.need (((Nat.beq x.snd.rings.n x.snd.rings.n) && true) && (!(x.snd.rings.get ((0 : Nat) + (Int.toNat x.fst.Ring))).nil)) <|
 (.call con_f30 (x.snd.rings.get ((0 : Nat) + (Int.toNat x.fst.Ring))).x fun (y2 : R_f30) =>
 (.need ((true && true) && ((Nat.beq x.snd.rings.n x.snd.rings.n) && (Nat.blt ((0 : Nat) + (Int.toNat x.fst.Ring)) x.snd.rings.n))) <|
 (.side ((fun v : Nat → V => v = v) (fun i3 => (cond (Nat.beq i3 ((0 : Nat) + (Int.toNat x.fst.Ring))) (V.ptr (Id.loc 73 0) List.nil) (V.Aj (x.snd.rings.get i3).nil (V.cons (V.cons (V.int IntKind.u64 (x.snd.rings.get i3).x.AA.tail) (V.cons (V.A7 36 1 (x.snd.rings.get i3).x.AA.AD.nil (x.snd.rings.get i3).x.AA.AD.n (fun i4 => (V.int IntKind.u64 ((x.snd.rings.get i3).x.AA.AD.get i4)))) V.unit)) (V.cons (V.Aj (x.snd.rings.get i3).x.s.nil (V.cons (V.A7 175 3 (x.snd.rings.get i3).x.s.x.l.nil (x.snd.rings.get i3).x.s.x.l.n (fun i4 => (V.cons (V.int IntKind.u64 ((x.snd.rings.get i3).x.s.x.l.get i4).AP) (V.cons (V.int IntKind.u64 ((x.snd.rings.get i3).x.s.x.l.get i4).Value) (V.cons (V.int IntKind.i64 ((x.snd.rings.get i3).x.s.x.l.get i4).Left) V.unit))))) (V.cons (V.int IntKind.i64 (x.snd.rings.get i3).x.s.x.AX) V.unit))) (V.cons (V.int IntKind.u64 (x.snd.rings.get i3).x.most) (V.cons (V.bool (x.snd.rings.get i3).x.closed) V.unit)))))))) <|
 (.need ((true && true) && (Nat.beq x.snd.rings.n x.snd.rings.n)) <|
 (.AM S_fe_20 D_fe_20 (X_fe_20.mk x.fst 0 (TFa.mk x.snd.p x.snd.threads (Sl.mk x.snd.rings.nil x.snd.rings.n (fun i3 => (Bx.mk (cond (Nat.beq i3 ((0 : Nat) + (Int.toNat x.fst.Ring))) false (x.snd.rings.get i3).nil) (TRr.mk (TRc.mk (cond (Nat.beq i3 ((0 : Nat) + (Int.toNat x.fst.Ring))) y2.snd.AA.tail (x.snd.rings.get i3).x.AA.tail) (Sl.mk (cond (Nat.beq i3 ((0 : Nat) + (Int.toNat x.fst.Ring))) y2.snd.AA.AD.nil (x.snd.rings.get i3).x.AA.AD.nil) (cond (Nat.beq i3 ((0 : Nat) + (Int.toNat x.fst.Ring))) y2.snd.AA.AD.n (x.snd.rings.get i3).x.AA.AD.n) (fun i4 => (cond (Nat.beq i3 ((0 : Nat) + (Int.toNat x.fst.Ring))) (y2.snd.AA.AD.get i4) ((x.snd.rings.get i3).x.AA.AD.get i4))))) (Bx.mk (cond (Nat.beq i3 ((0 : Nat) + (Int.toNat x.fst.Ring))) y2.snd.s.nil (x.snd.rings.get i3).x.s.nil) (TSs.mk (Sl.mk (cond (Nat.beq i3 ((0 : Nat) + (Int.toNat x.fst.Ring))) y2.snd.s.x.l.nil (x.snd.rings.get i3).x.s.x.l.nil) (cond (Nat.beq i3 ((0 : Nat) + (Int.toNat x.fst.Ring))) y2.snd.s.x.l.n (x.snd.rings.get i3).x.s.x.l.n) (fun i4 => (TSo.mk (cond (Nat.beq i3 ((0 : Nat) + (Int.toNat x.fst.Ring))) (y2.snd.s.x.l.get i4).AP ((x.snd.rings.get i3).x.s.x.l.get i4).AP) (cond (Nat.beq i3 ((0 : Nat) + (Int.toNat x.fst.Ring))) (y2.snd.s.x.l.get i4).Value ((x.snd.rings.get i3).x.s.x.l.get i4).Value) (cond (Nat.beq i3 ((0 : Nat) + (Int.toNat x.fst.Ring))) (y2.snd.s.x.l.get i4).Left ((x.snd.rings.get i3).x.s.x.l.get i4).Left)))) (cond (Nat.beq i3 ((0 : Nat) + (Int.toNat x.fst.Ring))) y2.snd.s.x.AX (x.snd.rings.get i3).x.s.x.AX))) (cond (Nat.beq i3 ((0 : Nat) + (Int.toNat x.fst.Ring))) y2.snd.most (x.snd.rings.get i3).x.most) (cond (Nat.beq i3 ((0 : Nat) + (Int.toNat x.fst.Ring))) y2.snd.closed (x.snd.rings.get i3).x.closed))))) x.snd.now x.snd.reads x.snd.ended)))))))))
 (.ite (AW x.fst.Kind 8)
 (.AM S_fe_20 D_fe_20 (X_fe_20.mk x.fst 0 (TFa.mk x.snd.p x.snd.threads x.snd.rings (imax x.snd.now x.fst.Value) x.snd.reads x.snd.ended)))
 (.ite (AW x.fst.Kind 10)
 (.AM S_fe_20 D_fe_20 (X_fe_20.mk x.fst 0 (TFa.mk x.snd.p x.snd.threads x.snd.rings x.snd.now (IntKind.u64.wrap (x.snd.reads + 1)) x.snd.ended)))
 (.ite (AW x.fst.Kind 11)
 (.AM S_fe_20 D_fe_20 (X_fe_20.mk x.fst 0 (TFa.mk x.snd.p x.snd.threads x.snd.rings x.snd.now x.snd.reads true)))
 (.AM S_fe_20 D_fe_20 (X_fe_20.mk x.fst 0 x.snd)))))))))))
theorem sd_fe (x : X_fe) : (tt_fe x).AJ :=
 (TT.sC fun _ => (TT.sI (TT.sC fun _ => TT.sJ) (TT.sI (TT.sN (TT.sN (TT.sC fun _ => (TT.sN (TT.sS rfl (TT.sN TT.sJ)))))) (TT.sI (TT.sN (TT.sN (TT.sC fun _ => (TT.sN (TT.sS rfl (TT.sN TT.sJ)))))) (TT.sI (TT.sN (TT.sN (TT.sC fun _ => (TT.sN (TT.sS rfl (TT.sN TT.sJ)))))) (TT.sI (TT.sN (TT.sN (TT.sC fun _ => (TT.sN (TT.sS rfl (TT.sN TT.sJ)))))) (TT.sI TT.sJ (TT.sI TT.sJ (TT.sI TT.sJ TT.sJ)))))))))
def D_fe : AU X_fe R_fe := .of tt_fe
def con_fe : BC Tryz.prog :=
 Br 64 J_fe S_fe D_fe 2 1 [.any, .any] (lk mxk (lbc ok_fe_20 rfl lbn) sd_fe)
abbrev X_f2i : Type := TEv × TFa
abbrev R_f2i : Type := Int × TFa
def J_f2i : BH Tryz.prog :=
 BN Tryz.prog Tryz.f33 19 [(3, 3)] [] [] [] [.any] [sh_TFa] [con_fd, con_fe, con_f16] R_f2i [] fun y => [(V.int .i64) y.1, e_TFa y.2]
def S_f2i : AO :=
 Ah Tryz.f33 2 1 X_f2i (fun x => [(V.ptr (.par 0) []), e_TEv x.1, e_TFa x.2]) fun l => (d_TEv (at_ l 1), d_TFa (at_ l 2))
def tt_f2i (x : X_f2i) : TT Tryz.prog R_f2i :=
 (.call con_f16 (x.fst, x.snd) fun (y1 : R_f16) =>
 (.ite (!(AW y1 0))
 (.ret (y1, x.snd))
 (.call con_fd (x.fst, x.snd) fun (y2 : R_fd) =>
 (.ite (!y2)
 (.ret (11, x.snd))
 (.call con_fe (x.fst, x.snd) fun (y3 : R_fe) =>
 (.ret (0, y3)))))))
theorem sd_f2i (x : X_f2i) : (tt_f2i x).AJ :=
 (TT.sC fun _ => (TT.sI TT.sR (TT.sC fun _ => (TT.sI TT.sR (TT.sC fun _ => TT.sR)))))
def D_f2i : AU X_f2i R_f2i := .of tt_f2i
def con_f2i : BC Tryz.prog :=
 Br 33 J_f2i S_f2i D_f2i 2 1 [.any, .any] (lk mxk lbn sd_f2i)
abbrev X_f3b : Type := (Sl Int) × AZ × TFa
abbrev R_f3b : Type := TEv × Bool × TFa
def J_f3b : BH Tryz.prog :=
 BN Tryz.prog Tryz.f18 23 [(5, 3), (10, 1), (12, 1)] [] [] [] [.any, .any] [sh_TFa] [con_f2i, con_f2h] R_f3b [] fun y => [V.CN (V.cons (e_TEv y.1) (V.cons (V.bool y.2.1) (V.unit))), e_TFa y.2.2]
def S_f3b : AO :=
 Ah Tryz.f18 3 1 X_f3b (fun x => [(V.ptr (.par 0) []), BB x.1, BW x.2.1, e_TFa x.2.2]) fun l => (BV (at_ l 1), Bc (at_ l 2), d_TFa (at_ l 3))
def tt_f3b (x : X_f3b) : TT Tryz.prog R_f3b :=
 (.call con_f2h (x.fst, (x.snd.fst, x.snd.snd)) fun (y1 : R_f2h) =>
 (.ite y1.snd
 (.call con_f2i (y1.fst, x.snd.snd) fun (y2 : R_f2i) =>
 (.ret (y1.fst, (y1.snd, y2.snd))))
 (.ret (y1.fst, (y1.snd, x.snd.snd)))))
theorem sd_f3b (x : X_f3b) : (tt_f3b x).AJ :=
 (TT.sC fun _ => (TT.sI (TT.sC fun _ => TT.sR) TT.sR))
def D_f3b : AU X_f3b R_f3b := .of tt_f3b
def con_f3b : BC Tryz.prog :=
 Br 18 J_f3b S_f3b D_f3b 3 1 [.any, BJ, .any] (lk mxk lbn sd_f3b)
abbrev X_f1n : Type := Int × TFa
abbrev R_f1n : Type := Bool
abbrev RR_f1n : Type := Bool × TFa
abbrev p_f1n (y : RR_f1n) : TFa := y.2
abbrev w_f1n (x : X_f1n) : TFa := x.2
def J_f1n : BH Tryz.prog :=
 BN Tryz.prog Tryz.f54 19 [] [] [] [.back (.loc 12 0)] [.any] [sh_TFa] [con_f1b] RR_f1n [] fun y => [V.bool y.1, e_TFa y.2]
def S_f1n : AO :=
 Ah Tryz.f54 2 1 X_f1n (fun x => [(V.ptr (.par 0) []), (V.int .i64) x.1, e_TFa x.2]) fun l => (dI (at_ l 1), d_TFa (at_ l 2))
def tt_f1n (x : X_f1n) : TT Tryz.prog RR_f1n :=
 (.call con_f1b (x.fst, x.snd) fun (y1 : R_f1b) =>
 (.ite y1
 (.need (A3 x.fst x.snd.threads.n) <|
 (.need ((Nat.beq x.snd.threads.n x.snd.threads.n) && true) <|
 (.need ((true && true) && (Nat.beq x.snd.threads.n x.snd.threads.n)) <|
 (.ret ((AW (x.snd.threads.get ((0 : Nat) + (Int.toNat x.fst))).Status 0), x.snd)))))
 (.ret (false, x.snd))))
theorem sd_f1n (x : X_f1n) : (tt_f1n x).AJ :=
 (TT.sC fun _ => (TT.sI (TT.sN (TT.sN (TT.sN TT.sR))) TT.sR))
theorem roT_f1n (x : X_f1n) : TT.Ro p_f1n (w_f1n x) (tt_f1n x) :=
 (TT.rC fun _ => (TT.rI (TT.rN (TT.rN (TT.rN (TT.rR rfl)))) (TT.rR rfl)))
def D_f1n : AU X_f1n R_f1n := .ro (.of tt_f1n) (fun y => (y.1)) (fun y x => (y, x.2)) fun x y h => congrArg (fun o => (y.1, o)) (roT_f1n x y h)
def con_f1n : BC Tryz.prog :=
 DT 54 J_f1n S_f1n (.of tt_f1n) D_f1n (fun y x => (y, x.2)) (fun y => V.bool y) 2 1 [.any, .any] (lk mxk lbn sd_f1n) (fun x => ⟨(nu_e_TFa : ∀ y, (e_TFa y).Ch) (x.2), trivial⟩)
abbrev HQ : Type := (Sl AZ)
def BS : HQ → V := (L4 none 4 BW)
def Bv : V → HQ := (Lk Bc)
def Bj : Sh := (.sl none 4 (BW (Bc .undef)))
abbrev Dsl_TEv : Type := (Sl TEv)
def esl_TEv : Dsl_TEv → V := (L4 none 5 e_TEv)
def dsl_TEv : V → Dsl_TEv := (Lk d_TEv)
def hsl_TEv : Sh := (.sl none 5 (e_TEv (d_TEv .undef)))
structure Ay where
 DD : (Sl TEv)
 State : TSt
 Idle : Int
 Fg : Int
def CJ (v : V) : Ay :=
 ⟨dsl_TEv (fd v 0), d_TSt (fd v 1), dI (fd v 2), dI (fd v 3)⟩
def Cm (x : Ay) : V :=
 V.cons (esl_TEv x.DD) (V.cons (e_TSt x.State) (V.cons ((V.int .i64) x.Idle) (V.cons ((V.int .i64) x.Fg) (V.unit))))
theorem Pc (x : Ay) : (Cm x).Ch := ⟨trivial, (nu_e_TSt : ∀ y, (e_TSt y).Ch) x.State, trivial, trivial, trivial⟩
def Cy : Sh := (.cons hsl_TEv (.cons sh_TSt .any))
abbrev DslA_TEv : Type := (Sl TEv)
def eslA_TEv : DslA_TEv → V := (L4 (some 43) 5 e_TEv)
def dslA_TEv : V → DslA_TEv := (Lk d_TEv)
def hslA_TEv : Sh := (.sl (some 43) 5 (e_TEv (d_TEv .undef)))
def DQ (x : Ay) : V :=
 V.cons (eslA_TEv x.DD) (V.cons (e_TSt x.State) (V.cons ((V.int .i64) x.Idle) (V.cons ((V.int .i64) x.Fg) (V.unit))))
theorem OV (x : Ay) : (DQ x).Ch := ⟨trivial, (nu_e_TSt : ∀ y, (e_TSt y).Ch) x.State, trivial, trivial, trivial⟩
def D5 : Sh := (.cons hslA_TEv (.cons sh_TSt .any))
abbrev X_ff : Type := TPg × (Sl Int) × (Sl AZ)
abbrev R_ff : Type := Ay × Int
def J_ff : BH Tryz.prog :=
 BN Tryz.prog Tryz.f22 73 [(3, 3), (15, 1), (34, 1), (40, 1), (54, 1), (69, 1)] [(7, [.open_ 8])] [] [] [Cy, .any] [] [con_f1n, con_f1, con_f19, con_f3b] R_ff [] fun y => [V.CN (V.cons (Cm y.1) (V.cons ((V.int .i64) y.2) (V.unit)))]
def S_ff : AO :=
 Ah Tryz.f22 3 0 X_ff (fun x => [e_TPg x.1, BB x.2.1, BS x.2.2]) fun l => (d_TPg (at_ l 0), BV (at_ l 1), Bv (at_ l 2))
structure X_ff_6 where
 Bi : (Sl Int)
 FT : (Sl AZ)
 f_8 : (Bx TFa)
 Fs : Ay
def S_ff_6 : AO :=
 Ad Tryz.f22 6 [(1, BJ), (2, Bj), (6, .any), (8, hbox_TFa)] [] [(.loc 6 0, Cy)] X_ff_6 (fun x => [BB x.Bi, BS x.FT, (V.ptr (.loc 6 0) []), ebox_TFa x.f_8, Cm x.Fs]) fun l => ⟨BV (at_ l 0), Bv (at_ l 1), dbox_TFa (at_ l 3), CJ (at_ l 4)⟩
structure X_ff_8 where
 Bi : (Sl Int)
 Lx : (Sl AZ)
 OJ : Int
 Kq : Int
 Fs : Ay
 B5 : Ay
 T0 : TFa
def S_ff_8 : AO :=
 Ad Tryz.f22 8 [(1, BJ), (6, .any), (8, .any), (10, .any), (34, Bj), (35, .any), (36, .any)] [] [(.loc 6 0, Cy), (.loc 10 0, D5), (.loc 8 1, sh_TFa)] X_ff_8 (fun x => [BB x.Bi, (V.ptr (.loc 6 0) []), (V.ptr (.loc 8 1) []), (V.ptr (.loc 10 0) []), BS x.Lx, (V.int .i64) x.OJ, (V.int .i64) x.Kq, Cm x.Fs, DQ x.B5, e_TFa x.T0]) fun l => ⟨BV (at_ l 0), Bv (at_ l 4), dI (at_ l 5), dI (at_ l 6), CJ (at_ l 7), CJ (at_ l 8), d_TFa (at_ l 9)⟩
structure X_ff_16 where
 Bi : (Sl Int)
 Lx : (Sl AZ)
 OJ : Int
 Kq : Int
 Fs : Ay
 B5 : Ay
 T0 : TFa
def S_ff_16 : AO :=
 Ad Tryz.f22 16 [(1, BJ), (6, .any), (8, .any), (10, .any), (34, Bj), (35, .any), (36, .any)] [] [(.loc 6 0, Cy), (.loc 10 0, D5), (.loc 8 1, sh_TFa)] X_ff_16 (fun x => [BB x.Bi, (V.ptr (.loc 6 0) []), (V.ptr (.loc 8 1) []), (V.ptr (.loc 10 0) []), BS x.Lx, (V.int .i64) x.OJ, (V.int .i64) x.Kq, Cm x.Fs, DQ x.B5, e_TFa x.T0]) fun l => ⟨BV (at_ l 0), Bv (at_ l 4), dI (at_ l 5), dI (at_ l 6), CJ (at_ l 7), CJ (at_ l 8), d_TFa (at_ l 9)⟩
structure X_ff_17 where
 Fs : Ay
 B5 : Ay
 T0 : TFa
def S_ff_17 : AO :=
 Ad Tryz.f22 17 (an [6, 8, 10]) [] [(.loc 6 0, Cy), (.loc 10 0, D5), (.loc 8 1, sh_TFa)] X_ff_17 (fun x => [(V.ptr (.loc 6 0) []), (V.ptr (.loc 8 1) []), (V.ptr (.loc 10 0) []), Cm x.Fs, DQ x.B5, e_TFa x.T0]) fun l => ⟨CJ (at_ l 3), CJ (at_ l 4), d_TFa (at_ l 5)⟩
def tt_ff_17 (x : X_ff_17) : TT Tryz.prog R_ff :=
 (.call con_f1 x.T0 fun (y1 : R_f1) =>
 (.ret ((Ay.mk x.B5.DD y1 x.B5.Idle x.B5.Fg), 0)))
theorem sd_ff_17 (x : X_ff_17) : (tt_ff_17 x).AJ :=
 (TT.sC fun _ => TT.sR)
def D_ff_17 : AU X_ff_17 R_ff := .of tt_ff_17
theorem ok_ff_17 : AY J_ff S_ff_17 D_ff_17 :=
 lk mxk lbn sd_ff_17
def tt_ff_16 (D_ff_8 : AU X_ff_8 R_ff) (x : X_ff_16) : TT Tryz.prog R_ff :=
 (.AM S_ff_8 D_ff_8 (X_ff_8.mk x.Bi x.Lx x.OJ (IntKind.i64.wrap (x.Kq + 1)) x.Fs x.B5 x.T0))
theorem sd_ff_16 (D_ff_8 : AU X_ff_8 R_ff) (x : X_ff_16) : (tt_ff_16 D_ff_8 x).AJ :=
 TT.sJ
def D_ff_16 (D_ff_8 : AU X_ff_8 R_ff) : AU X_ff_16 R_ff := .of (tt_ff_16 D_ff_8)
theorem ok_ff_16 (D_ff_8 : AU X_ff_8 R_ff) (h_8 : AY J_ff S_ff_8 D_ff_8) : AY J_ff S_ff_16 (D_ff_16 D_ff_8) :=
 lk mxk (lbc h_8 rfl (lbc ok_ff_17 rfl lbn)) (sd_ff_16 D_ff_8)
def tt_ff_8 (D_ff_8 : AU X_ff_8 R_ff) (x : X_ff_8) : TT Tryz.prog R_ff :=
 (.ite (Bg x.Kq x.OJ)
 (.need (A3 x.Kq x.Lx.n) <|
 (.call con_f3b (x.Bi, ((x.Lx.get (Int.toNat x.Kq)), x.T0)) fun (y2 : R_f3b) =>
 (.ite y2.snd.fst
 (.need (true && (room (x.B5.DD.n + 1) 40)) <|
 (.AM S_ff_16 (D_ff_16 D_ff_8) (X_ff_16.mk x.Bi x.Lx x.OJ x.Kq x.Fs (Ay.mk (Sl.mk (cond (Nat.beq 1 0) x.B5.DD.nil false) (x.B5.DD.n + 1) (fun i3 => (TEv.mk (cond (Nat.blt i3 x.B5.DD.n) (x.B5.DD.get i3).Thread y2.fst.Thread) (cond (Nat.blt i3 x.B5.DD.n) (x.B5.DD.get i3).Kind y2.fst.Kind) (cond (Nat.blt i3 x.B5.DD.n) (x.B5.DD.get i3).Ring y2.fst.Ring) (cond (Nat.blt i3 x.B5.DD.n) (x.B5.DD.get i3).AG y2.fst.AG) (cond (Nat.blt i3 x.B5.DD.n) (x.B5.DD.get i3).Value y2.fst.Value)))) x.B5.State x.B5.Idle x.B5.Fg) y2.snd.snd)))
 (.call con_f1n ((x.Lx.get (Int.toNat x.Kq)).B4, y2.snd.snd) fun (y3 : R_f1n) =>
 (.ite y3
 (.AM S_ff_16 (D_ff_16 D_ff_8) (X_ff_16.mk x.Bi x.Lx x.OJ x.Kq x.Fs (Ay.mk x.B5.DD x.B5.State x.B5.Idle (IntKind.i64.wrap (x.B5.Fg + 1))) y2.snd.snd))
 (.AM S_ff_16 (D_ff_16 D_ff_8) (X_ff_16.mk x.Bi x.Lx x.OJ x.Kq x.Fs (Ay.mk x.B5.DD x.B5.State (IntKind.i64.wrap (x.B5.Idle + 1)) x.B5.Fg) y2.snd.snd)))))))
 (.AM S_ff_17 D_ff_17 (X_ff_17.mk x.Fs x.B5 x.T0)))
theorem sd_ff_8 (D_ff_8 : AU X_ff_8 R_ff) (x : X_ff_8) : (tt_ff_8 D_ff_8 x).AJ :=
 (TT.sI (TT.sN (TT.sC fun _ => (TT.sI (TT.sN TT.sJ) (TT.sC fun _ => (TT.sI TT.sJ TT.sJ))))) TT.sJ)
def D_ff_8 : AU X_ff_8 R_ff := AU.loop tt_ff_8
theorem ok_ff_8 : AY J_ff S_ff_8 D_ff_8 :=
 A5 fun D_ff_8 h_8 => lk mxk (lbc h_8 rfl (lbc ok_ff_17 rfl (lbc (ok_ff_16 D_ff_8 h_8) rfl lbn))) (sd_ff_8 D_ff_8)
def tt_ff_6 (x : X_ff_6) : TT Tryz.prog R_ff :=
 (.need (!x.f_8.nil) <|
 (.AM S_ff_8 D_ff_8 (X_ff_8.mk x.Bi x.FT ((x.FT.n : Nat) : Int) 0 x.Fs (Ay.mk (Sl.mk true 0 (fun _i1 => (TEv.mk 0 0 0 0 0))) (TSt.mk (Sl.mk true 0 (fun _i1 => (TTh.mk 0 0 0 0 0 (fun _i2 => (0 : Int)) (Sl.mk true 0 (fun _i2 => (0 : Int)))))) (Sl.mk true 0 (fun _i1 => (TRs.mk 0 (Sl.mk true 0 (fun _i2 => (0 : Int))) false (Sl.mk true 0 (fun _i2 => (TSo.mk 0 0 0)))))) 0 0 false) 0 0) x.f_8.x)))
theorem sd_ff_6 (x : X_ff_6) : (tt_ff_6 x).AJ :=
 (TT.sN TT.sJ)
def D_ff_6 : AU X_ff_6 R_ff := .of tt_ff_6
theorem ok_ff_6 : AY J_ff S_ff_6 D_ff_6 :=
 lk mxk (lbc ok_ff_17 rfl (lbc ok_ff_8 rfl lbn)) sd_ff_6
def tt_ff (x : X_ff) : TT Tryz.prog R_ff :=
 (.call con_f19 x.fst fun (y1 : R_f19) =>
 (.ite (!(AW y1.snd 0))
 (.ret ((Ay.mk (Sl.mk true 0 (fun _i2 => (TEv.mk 0 0 0 0 0))) (TSt.mk (Sl.mk true 0 (fun _i2 => (TTh.mk 0 0 0 0 0 (fun _i3 => (0 : Int)) (Sl.mk true 0 (fun _i3 => (0 : Int)))))) (Sl.mk true 0 (fun _i2 => (TRs.mk 0 (Sl.mk true 0 (fun _i3 => (0 : Int))) false (Sl.mk true 0 (fun _i3 => (TSo.mk 0 0 0)))))) 0 0 false) 0 0), 1))
 (.ite (Bg 65536 ((x.snd.snd.n : Nat) : Int))
 (.ret ((Ay.mk (Sl.mk true 0 (fun _i2 => (TEv.mk 0 0 0 0 0))) (TSt.mk (Sl.mk true 0 (fun _i2 => (TTh.mk 0 0 0 0 0 (fun _i3 => (0 : Int)) (Sl.mk true 0 (fun _i3 => (0 : Int)))))) (Sl.mk true 0 (fun _i2 => (TRs.mk 0 (Sl.mk true 0 (fun _i3 => (0 : Int))) false (Sl.mk true 0 (fun _i3 => (TSo.mk 0 0 0)))))) 0 0 false) 0 0), 4))
 (.ite (Bg 65536 ((x.snd.fst.n : Nat) : Int))
 (.ret ((Ay.mk (Sl.mk true 0 (fun _i2 => (TEv.mk 0 0 0 0 0))) (TSt.mk (Sl.mk true 0 (fun _i2 => (TTh.mk 0 0 0 0 0 (fun _i3 => (0 : Int)) (Sl.mk true 0 (fun _i3 => (0 : Int)))))) (Sl.mk true 0 (fun _i2 => (TRs.mk 0 (Sl.mk true 0 (fun _i3 => (0 : Int))) false (Sl.mk true 0 (fun _i3 => (TSo.mk 0 0 0)))))) 0 0 false) 0 0), 4))
 (.AM S_ff_6 D_ff_6 (X_ff_6.mk x.snd.fst x.snd.snd (Bx.mk y1.fst.nil y1.fst.x) (Ay.mk (Sl.mk true 0 (fun _i2 => (TEv.mk 0 0 0 0 0))) (TSt.mk (Sl.mk true 0 (fun _i2 => (TTh.mk 0 0 0 0 0 (fun _i3 => (0 : Int)) (Sl.mk true 0 (fun _i3 => (0 : Int)))))) (Sl.mk true 0 (fun _i2 => (TRs.mk 0 (Sl.mk true 0 (fun _i3 => (0 : Int))) false (Sl.mk true 0 (fun _i3 => (TSo.mk 0 0 0)))))) 0 0 false) 0 0)))))))
theorem sd_ff (x : X_ff) : (tt_ff x).AJ :=
 (TT.sC fun _ => (TT.sI TT.sR (TT.sI TT.sR (TT.sI TT.sR TT.sJ))))
def D_ff : AU X_ff R_ff := .of tt_ff
def con_ff : BC Tryz.prog :=
 Br 22 J_ff S_ff D_ff 3 0 [sh_TPg, BJ, Bj] (lk mxk (lbc ok_ff_17 rfl (lbc ok_ff_8 rfl (lbc ok_ff_6 rfl lbn))) sd_ff)
abbrev G2 : Type := (Sl AZ)
def D2 : G2 → V := (L4 (some 41) 4 BW)
def D3 : V → G2 := (Lk Bc)
def D0 : Sh := (.sl (some 41) 4 (BW (Bc .undef)))
abbrev X_fa : Type := TPg × (Sl TEv)
abbrev R_fa : Type := (Sl Int) × (Sl AZ) × Int
def J_fa : BH Tryz.prog :=
 BN Tryz.prog Tryz.f27 68 [(2, 3), (18, 1), (23, 1), (52, 1), (61, 1), (66, 1), (67, 1)] [(6, [.open_ 7])] [] [.Eg 4, .Eg 5] [BJ, Bj, .any] [] [con_f3a, con_f2i, con_f1j, con_f19] R_fa [] fun y => [V.CN (V.cons (BB y.1) (V.cons (BS y.2.1) (V.cons ((V.int .i64) y.2.2) (V.unit))))]
def S_fa : AO :=
 Ah Tryz.f27 2 0 X_fa (fun x => [e_TPg x.1, esl_TEv x.2]) fun l => (d_TPg (at_ l 0), dsl_TEv (at_ l 1))
structure X_fa_7 where
 C8 : (Sl Int)
 BQ : (Sl AZ)
 DH : (Sl TEv)
 J6 : Int
 D7 : Int
 H4 : TFa
def S_fa_7 : AO :=
 Ad Tryz.f27 7 [(4, GP), (5, D0), (7, .any), (23, hsl_TEv), (24, .any), (25, .any)] [] [(.loc 7 1, sh_TFa)] X_fa_7 (fun x => [GR x.C8, D2 x.BQ, (V.ptr (.loc 7 1) []), esl_TEv x.DH, (V.int .i64) x.J6, (V.int .i64) x.D7, e_TFa x.H4]) fun l => ⟨Ir (at_ l 0), D3 (at_ l 1), dsl_TEv (at_ l 3), dI (at_ l 4), dI (at_ l 5), d_TFa (at_ l 6)⟩
structure X_fa_17 where
 C8 : (Sl Int)
 BQ : (Sl AZ)
 DH : (Sl TEv)
 J6 : Int
 D7 : Int
 B5 : TEv
 Sa : AZ
 H4 : TFa
def S_fa_17 : AO :=
 Ad Tryz.f27 17 [(4, GP), (5, D0), (7, .any), (10, .any), (11, .any), (23, hsl_TEv), (24, .any), (25, .any)] [] [(.loc 10 0, .any), (.loc 11 0, .any), (.loc 7 1, sh_TFa)] X_fa_17 (fun x => [GR x.C8, D2 x.BQ, (V.ptr (.loc 7 1) []), (V.ptr (.loc 10 0) []), (V.ptr (.loc 11 0) []), esl_TEv x.DH, (V.int .i64) x.J6, (V.int .i64) x.D7, e_TEv x.B5, BW x.Sa, e_TFa x.H4]) fun l => ⟨Ir (at_ l 0), D3 (at_ l 1), dsl_TEv (at_ l 5), dI (at_ l 6), dI (at_ l 7), d_TEv (at_ l 8), Bc (at_ l 9), d_TFa (at_ l 10)⟩
structure X_fa_20 where
 C8 : (Sl Int)
 BQ : (Sl AZ)
 DH : (Sl TEv)
 J6 : Int
 D7 : Int
 H4 : TFa
def S_fa_20 : AO :=
 Ad Tryz.f27 20 [(4, GP), (5, D0), (7, .any), (23, hsl_TEv), (24, .any), (25, .any)] [] [(.loc 7 1, sh_TFa)] X_fa_20 (fun x => [GR x.C8, D2 x.BQ, (V.ptr (.loc 7 1) []), esl_TEv x.DH, (V.int .i64) x.J6, (V.int .i64) x.D7, e_TFa x.H4]) fun l => ⟨Ir (at_ l 0), D3 (at_ l 1), dsl_TEv (at_ l 3), dI (at_ l 4), dI (at_ l 5), d_TFa (at_ l 6)⟩
structure X_fa_21 where
 C8 : (Sl Int)
 BQ : (Sl AZ)
def S_fa_21 : AO :=
 Ad Tryz.f27 21 [(4, GP), (5, D0)] [] [] X_fa_21 (fun x => [GR x.C8, D2 x.BQ]) fun l => ⟨Ir (at_ l 0), D3 (at_ l 1)⟩
def tt_fa_21 (x : X_fa_21) : TT Tryz.prog R_fa :=
 (.ret (x.C8, (x.BQ, 0)))
theorem sd_fa_21 (x : X_fa_21) : (tt_fa_21 x).AJ :=
 TT.sR
def D_fa_21 : AU X_fa_21 R_fa := .of tt_fa_21
theorem ok_fa_21 : AY J_fa S_fa_21 D_fa_21 :=
 lk mxk lbn sd_fa_21
def tt_fa_20 (D_fa_7 : AU X_fa_7 R_fa) (x : X_fa_20) : TT Tryz.prog R_fa :=
 (.AM S_fa_7 D_fa_7 (X_fa_7.mk x.C8 x.BQ x.DH x.J6 (IntKind.i64.wrap (x.D7 + 1)) x.H4))
theorem sd_fa_20 (D_fa_7 : AU X_fa_7 R_fa) (x : X_fa_20) : (tt_fa_20 D_fa_7 x).AJ :=
 TT.sJ
def D_fa_20 (D_fa_7 : AU X_fa_7 R_fa) : AU X_fa_20 R_fa := .of (tt_fa_20 D_fa_7)
theorem ok_fa_20 (D_fa_7 : AU X_fa_7 R_fa) (h_7 : AY J_fa S_fa_7 D_fa_7) : AY J_fa S_fa_20 (D_fa_20 D_fa_7) :=
 lk mxk (lbc h_7 rfl (lbc ok_fa_21 rfl lbn)) (sd_fa_20 D_fa_7)
def tt_fa_17 (D_fa_7 : AU X_fa_7 R_fa) (x : X_fa_17) : TT Tryz.prog R_fa :=
 (.call con_f2i (x.B5, x.H4) fun (y2 : R_f2i) =>
 (.ite (!(AW y2.fst 0))
 (.ret ((Sl.mk true 0 (fun _i3 => (0 : Int))), ((Sl.mk true 0 (fun _i3 => (AZ.mk 0 0 0 false))), 11)))
 (.need (true && (room (x.BQ.n + 1) 32)) <|
 (.AM S_fa_20 (D_fa_20 D_fa_7) (X_fa_20.mk x.C8 (Sl.mk (cond (Nat.beq 1 0) x.BQ.nil false) (x.BQ.n + 1) (fun i3 => (AZ.mk (cond (Nat.blt i3 x.BQ.n) (x.BQ.get i3).B4 x.Sa.B4) (cond (Nat.blt i3 x.BQ.n) (x.BQ.get i3).Dj x.Sa.Dj) (cond (Nat.blt i3 x.BQ.n) (x.BQ.get i3).Gx x.Sa.Gx) (cond (Nat.blt i3 x.BQ.n) (x.BQ.get i3).Hn x.Sa.Hn)))) x.DH x.J6 x.D7 y2.snd)))))
theorem sd_fa_17 (D_fa_7 : AU X_fa_7 R_fa) (x : X_fa_17) : (tt_fa_17 D_fa_7 x).AJ :=
 (TT.sC fun _ => (TT.sI TT.sR (TT.sN TT.sJ)))
def D_fa_17 (D_fa_7 : AU X_fa_7 R_fa) : AU X_fa_17 R_fa := .of (tt_fa_17 D_fa_7)
theorem ok_fa_17 (D_fa_7 : AU X_fa_7 R_fa) (h_7 : AY J_fa S_fa_7 D_fa_7) : AY J_fa S_fa_17 (D_fa_17 D_fa_7) :=
 lk mxk (lbc h_7 rfl (lbc ok_fa_21 rfl (lbc (ok_fa_20 D_fa_7 h_7) rfl lbn))) (sd_fa_17 D_fa_7)
def tt_fa_7 (D_fa_7 : AU X_fa_7 R_fa) (x : X_fa_7) : TT Tryz.prog R_fa :=
 (.ite (Bg x.D7 x.J6)
 (.need (A3 x.D7 x.DH.n) <|
 (.ite (AW (x.DH.get (Int.toNat x.D7)).Kind 8)
 (.call con_f1j x.H4 fun (y2 : R_f1j) =>
 (.AM S_fa_17 (D_fa_17 D_fa_7) (X_fa_17.mk x.C8 x.BQ x.DH x.J6 x.D7 (x.DH.get (Int.toNat x.D7)) (AZ.mk (x.DH.get (Int.toNat x.D7)).Thread (IntKind.u64.wrap ((x.DH.get (Int.toNat x.D7)).Value - y2)) 0 (AW (x.DH.get (Int.toNat x.D7)).Kind 7)) x.H4)))
 (.ite (AW (x.DH.get (Int.toNat x.D7)).Kind 9)
 (.AM S_fa_17 (D_fa_17 D_fa_7) (X_fa_17.mk x.C8 x.BQ x.DH x.J6 x.D7 (x.DH.get (Int.toNat x.D7)) (AZ.mk (x.DH.get (Int.toNat x.D7)).Thread 0 (x.DH.get (Int.toNat x.D7)).Value (AW (x.DH.get (Int.toNat x.D7)).Kind 7)) x.H4))
 (.ite (AW (x.DH.get (Int.toNat x.D7)).Kind 10)
 (.need (true && (room (x.C8.n + 1) 8)) <|
 (.AM S_fa_17 (D_fa_17 D_fa_7) (X_fa_17.mk (Sl.mk (cond (Nat.beq 1 0) x.C8.nil false) (x.C8.n + 1) (fun i2 => (cond (Nat.blt i2 x.C8.n) (x.C8.get i2) (x.DH.get (Int.toNat x.D7)).Value))) x.BQ x.DH x.J6 x.D7 (x.DH.get (Int.toNat x.D7)) (AZ.mk (x.DH.get (Int.toNat x.D7)).Thread 0 0 (AW (x.DH.get (Int.toNat x.D7)).Kind 7)) x.H4)))
 (.AM S_fa_17 (D_fa_17 D_fa_7) (X_fa_17.mk x.C8 x.BQ x.DH x.J6 x.D7 (x.DH.get (Int.toNat x.D7)) (AZ.mk (x.DH.get (Int.toNat x.D7)).Thread 0 0 (AW (x.DH.get (Int.toNat x.D7)).Kind 7)) x.H4))))))
 (.AM S_fa_21 D_fa_21 (X_fa_21.mk x.C8 x.BQ)))
theorem sd_fa_7 (D_fa_7 : AU X_fa_7 R_fa) (x : X_fa_7) : (tt_fa_7 D_fa_7 x).AJ :=
 (TT.sI (TT.sN (TT.sI (TT.sC fun _ => TT.sJ) (TT.sI TT.sJ (TT.sI (TT.sN TT.sJ) TT.sJ)))) TT.sJ)
def D_fa_7 : AU X_fa_7 R_fa := AU.loop tt_fa_7
theorem ok_fa_7 : AY J_fa S_fa_7 D_fa_7 :=
 A5 fun D_fa_7 h_7 => lk mxk (lbc h_7 rfl (lbc ok_fa_21 rfl (lbc (ok_fa_20 D_fa_7 h_7) rfl (lbc (ok_fa_17 D_fa_7 h_7) rfl lbn)))) (sd_fa_7 D_fa_7)
def tt_fa (x : X_fa) : TT Tryz.prog R_fa :=
 (.call con_f3a x.fst fun (y1 : R_f3a) =>
 (.ite (!y1)
 (.ret ((Sl.mk true 0 (fun _i2 => (0 : Int))), ((Sl.mk true 0 (fun _i2 => (AZ.mk 0 0 0 false))), 1)))
 (.ite (Bg 65536 ((x.snd.n : Nat) : Int))
 (.ret ((Sl.mk true 0 (fun _i2 => (0 : Int))), ((Sl.mk true 0 (fun _i2 => (AZ.mk 0 0 0 false))), 4)))
 (.call con_f19 x.fst fun (y2 : R_f19) =>
 (.need (!y2.fst.nil) <|
 (.AM S_fa_7 D_fa_7 (X_fa_7.mk (Sl.mk true 0 (fun _i3 => (0 : Int))) (Sl.mk true 0 (fun _i3 => (AZ.mk 0 0 0 false))) x.snd ((x.snd.n : Nat) : Int) 0 y2.fst.x)))))))
theorem sd_fa (x : X_fa) : (tt_fa x).AJ :=
 (TT.sC fun _ => (TT.sI TT.sR (TT.sI TT.sR (TT.sC fun _ => (TT.sN TT.sJ)))))
def D_fa : AU X_fa R_fa := .of tt_fa
def con_fa : BC Tryz.prog :=
 Br 27 J_fa S_fa D_fa 2 0 [sh_TPg, hsl_TEv] (lk mxk (lbc ok_fa_21 rfl (lbc ok_fa_7 rfl lbn)) sd_fa)
abbrev X_f2j : Type := (Sl TEv) × (Sl TEv)
abbrev R_f2j : Type := Bool
def J_f2j : BH Tryz.prog :=
 BN Tryz.prog Tryz.f26 26 [] [] [] [] [.any] [] [] R_f2j [] fun y => [V.bool y]
def S_f2j : AO :=
 Ah Tryz.f26 2 0 X_f2j (fun x => [esl_TEv x.1, esl_TEv x.2]) fun l => (dsl_TEv (at_ l 0), dsl_TEv (at_ l 1))
structure X_f2j_4 where
 Lf : (Sl TEv)
 Mj : (Sl TEv)
 Dh : Int
def S_f2j_4 : AO :=
 Ad Tryz.f26 4 [(0, hsl_TEv), (1, hsl_TEv), (5, .any)] [] [] X_f2j_4 (fun x => [esl_TEv x.Lf, esl_TEv x.Mj, (V.int .i64) x.Dh]) fun l => ⟨dsl_TEv (at_ l 0), dsl_TEv (at_ l 1), dI (at_ l 2)⟩
def tt_f2j_4 (D_f2j_4 : AU X_f2j_4 R_f2j) (x : X_f2j_4) : TT Tryz.prog R_f2j :=
 (.ite (Bg x.Dh ((x.Lf.n : Nat) : Int))
 (.need (A3 x.Dh x.Lf.n) <|
 (.need (A3 x.Dh x.Mj.n) <|
 (.ite (!((AW (x.Lf.get (Int.toNat x.Dh)).Thread (x.Mj.get (Int.toNat x.Dh)).Thread) && ((AW (x.Lf.get (Int.toNat x.Dh)).Kind (x.Mj.get (Int.toNat x.Dh)).Kind) && ((AW (x.Lf.get (Int.toNat x.Dh)).Ring (x.Mj.get (Int.toNat x.Dh)).Ring) && ((AW (x.Lf.get (Int.toNat x.Dh)).AG (x.Mj.get (Int.toNat x.Dh)).AG) && ((AW (x.Lf.get (Int.toNat x.Dh)).Value (x.Mj.get (Int.toNat x.Dh)).Value) && true))))))
 (.ret false)
 (.AM S_f2j_4 D_f2j_4 (X_f2j_4.mk x.Lf x.Mj (IntKind.i64.wrap (x.Dh + 1)))))))
 (.ret true))
theorem sd_f2j_4 (D_f2j_4 : AU X_f2j_4 R_f2j) (x : X_f2j_4) : (tt_f2j_4 D_f2j_4 x).AJ :=
 (TT.sI (TT.sN (TT.sN (TT.sI TT.sR TT.sJ))) TT.sR)
def D_f2j_4 : AU X_f2j_4 R_f2j := AU.loop tt_f2j_4
theorem ok_f2j_4 : AY J_f2j S_f2j_4 D_f2j_4 :=
 A5 fun D_f2j_4 h_4 => lk mxk (lbc h_4 rfl lbn) (sd_f2j_4 D_f2j_4)
def tt_f2j (x : X_f2j) : TT Tryz.prog R_f2j :=
 (.ite (!(AW ((x.fst.n : Nat) : Int) ((x.snd.n : Nat) : Int)))
 (.ret false)
 (.AM S_f2j_4 D_f2j_4 (X_f2j_4.mk x.fst x.snd 0)))
theorem sd_f2j (x : X_f2j) : (tt_f2j x).AJ :=
 (TT.sI TT.sR TT.sJ)
def D_f2j : AU X_f2j R_f2j := .of tt_f2j
def con_f2j : BC Tryz.prog :=
 Br 26 J_f2j S_f2j D_f2j 2 0 [hsl_TEv, hsl_TEv] (lk mxk (lbc ok_f2j_4 rfl lbn) sd_f2j)
abbrev X_f2d : Type := Int
abbrev R_f2d : Type := TAk × Int
def J_f2d : BH Tryz.prog :=
 BN Tryz.prog Tryz.f42 19 [(16, 1)] [] [] [] [.any, .any] [] [] R_f2d [] fun y => [V.CN (V.cons (e_TAk y.1) (V.cons ((V.int .i64) y.2) (V.unit)))]
def S_f2d : AO :=
 Ah Tryz.f42 2 0 X_f2d (fun x => [V.Cu, (V.int .i64) x]) fun l => (dI (at_ l 1))
def tt_f2d (_x : X_f2d) : TT Tryz.prog R_f2d :=
 (.ret ((TAk.mk 0 0 0 0 0 0), 15))
theorem sd_f2d (x : X_f2d) : (tt_f2d x).AJ :=
 TT.sR
def D_f2d : AU X_f2d R_f2d := .of tt_f2d
def con_f2d : BC Tryz.prog :=
 Br 42 J_f2d S_f2d D_f2d 2 0 [.any, .any] (lk mxk lbn sd_f2d)
abbrev X_f3c : Type := (Sl Int) × AZ
abbrev R_f3c : Type := TEv × Bool
def J_f3c : BH Tryz.prog :=
 BN Tryz.prog Tryz.f15 34 [(5, 3), (12, 1), (22, 1), (23, 1), (24, 1)] [] [] [] [.any, .any] [] [con_f2d] R_f3c [] fun y => [V.CN (V.cons (e_TEv y.1) (V.cons (V.bool y.2) (V.unit)))]
def S_f3c : AO :=
 Ah Tryz.f15 3 0 X_f3c (fun x => [V.Cu, BB x.1, BW x.2]) fun l => (BV (at_ l 1), Bc (at_ l 2))
def tt_f3c (x : X_f3c) : TT Tryz.prog R_f3c :=
 (.call con_f2d x.snd.B4 fun (y1 : R_f2d) =>
 (.need (!(AW y1.snd 0)) <|
 (.ret ((TEv.mk 0 0 0 0 0), false))))
theorem sd_f3c (x : X_f3c) : (tt_f3c x).AJ :=
 (TT.sC fun _ => (TT.sN TT.sR))
def D_f3c : AU X_f3c R_f3c := .of tt_f3c
def con_f3c : BC Tryz.prog :=
 Br 15 J_f3c S_f3c D_f3c 3 0 [.any, BJ, .any] (lk mxk lbn sd_f3c)
abbrev X_f3h : Type := Unit
abbrev R_f3h : Type := Bool
def J_f3h : BH Tryz.prog :=
 BN Tryz.prog Tryz.f11 145 [(21, 1), (30, 1), (35, 1), (43, 1), (52, 1), (57, 1), (63, 1), (69, 1), (70, 1), (75, 1), (104, 1), (109, 1)] [(6, [.open_ 11])] [] [] [.any] [] [con_f19, con_f2j, con_f3r, con_fa, con_f2h, con_ff, con_f3b, con_f3c] R_f3h [] fun y => [V.bool y]
def S_f3h : AO :=
 Ah Tryz.f11 0 0 X_f3h (fun _x => []) fun _l => ()
def tt_f3h (_x : X_f3h) : TT Tryz.prog R_f3h :=
 (.call con_f3r PUnit.unit fun (y1 : R_f3r) =>
 (.call con_ff (y1, ((Sl.mk true 0 (fun _i2 => (0 : Int))), (Sl.mk false 3 (fun i2 => (AZ.mk (cond (Nat.beq i2 0) (0 : Int) (cond (Nat.beq i2 1) (0 : Int) (7 : Int))) (cond (Nat.beq i2 0) (0 : Int) (cond (Nat.beq i2 1) (0 : Int) (0 : Int))) (cond (Nat.beq i2 0) (0 : Int) (cond (Nat.beq i2 1) (0 : Int) (0 : Int))) (cond (Nat.beq i2 0) false (cond (Nat.beq i2 1) false false))))))) fun (y2 : R_ff) =>
 (.call con_ff ((TPg.mk (Sl.mk true 0 (fun _i3 => (TRg.mk 0 0 0))) (Sl.mk true 0 (fun _i3 => (Sl.mk true 0 (fun _i4 => (TIn.mk 0 0 0 0 0 0)))))), ((Sl.mk true 0 (fun _i3 => (0 : Int))), (Sl.mk true 0 (fun _i3 => (AZ.mk 0 0 0 false))))) fun (y3 : R_ff) =>
 (.call con_f3r PUnit.unit fun (y4 : R_f3r) =>
 (.call con_fa (y4, (Sl.mk false 1 (fun _i5 => (TEv.mk 0 14 0 0 0)))) fun (y5 : R_fa) =>
 (.call con_f3r PUnit.unit fun (y6 : R_f3r) =>
 (.call con_fa (y6, (Sl.mk false 2 (fun i7 => (TEv.mk (cond (Nat.beq i7 0) (0 : Int) (0 : Int)) (cond (Nat.beq i7 0) (14 : Int) (14 : Int)) (cond (Nat.beq i7 0) (0 : Int) (0 : Int)) (cond (Nat.beq i7 0) (0 : Int) (0 : Int)) (cond (Nat.beq i7 0) (0 : Int) (0 : Int)))))) fun (y7 : R_fa) =>
 (.call con_f3r PUnit.unit fun (y8 : R_f3r) =>
 (.call con_f19 y8 fun (y9 : R_f19) =>
 (.need (!y9.fst.nil) <|
 (.call con_f2h ((Sl.mk true 0 (fun _i10 => (0 : Int))), ((AZ.mk 0 0 0 false), y9.fst.x)) fun (y10 : R_f2h) =>
 (.call con_f3b ((Sl.mk true 0 (fun _i11 => (0 : Int))), ((AZ.mk 0 0 0 false), y9.fst.x)) fun (y11 : R_f3b) =>
 (.call con_f3b ((Sl.mk true 0 (fun _i12 => (0 : Int))), ((AZ.mk 0 0 0 false), y11.snd.snd)) fun (y12 : R_f3b) =>
 (.call con_f3c ((Sl.mk true 0 (fun _i13 => (0 : Int))), (AZ.mk 0 0 0 false)) fun (y13 : R_f3c) =>
 (.ite (AW y2.snd 0)
 (.call con_f2j (y2.fst.DD, (Sl.mk false 1 (fun _i14 => (TEv.mk 0 14 0 0 0)))) fun (y14 : R_f2j) =>
 (.ite y14
 (.ite (AW y2.fst.Idle 2)
 (.ite (AW y2.fst.Fg 0)
 (.ite (AW y3.snd 1)
 (.ite (AW ((y5.fst.n : Nat) : Int) 0)
 (.ite (AW ((y5.snd.fst.n : Nat) : Int) 1)
 (.ite (AW y5.snd.snd 0)
 (.ite (AW y7.snd.snd 11)
 (.ite (AW y10.fst.Kind 14)
 (.ite y10.snd
 (.ite ((AW y11.fst.Thread y10.fst.Thread) && ((AW y11.fst.Kind y10.fst.Kind) && ((AW y11.fst.Ring y10.fst.Ring) && ((AW y11.fst.AG y10.fst.AG) && ((AW y11.fst.Value y10.fst.Value) && true)))))
 (.ite y11.snd.fst
 (.ite (!y12.snd.fst)
 (.ret (!y13.snd))
 (.ret false))
 (.ret false))
 (.ret false))
 (.ret false))
 (.ret false))
 (.ret false))
 (.ret false))
 (.ret false))
 (.ret false))
 (.ret false))
 (.ret false))
 (.ret false))
 (.ret false)))
 (.ret false))))))))))))))))
theorem sd_f3h (x : X_f3h) : (tt_f3h x).AJ :=
 (TT.sC fun _ => (TT.sC fun _ => (TT.sC fun _ => (TT.sC fun _ => (TT.sC fun _ => (TT.sC fun _ => (TT.sC fun _ => (TT.sC fun _ => (TT.sC fun _ => (TT.sN (TT.sC fun _ => (TT.sC fun _ => (TT.sC fun _ => (TT.sC fun _ => (TT.sI (TT.sC fun _ => (TT.sI (TT.sI (TT.sI (TT.sI (TT.sI (TT.sI (TT.sI (TT.sI (TT.sI (TT.sI (TT.sI (TT.sI (TT.sI TT.sR TT.sR) TT.sR) TT.sR) TT.sR) TT.sR) TT.sR) TT.sR) TT.sR) TT.sR) TT.sR) TT.sR) TT.sR) TT.sR)) TT.sR)))))))))))))))
def D_f3h : AU X_f3h R_f3h := .of tt_f3h
def con_f3h : BC Tryz.prog :=
 Br 11 J_f3h S_f3h D_f3h 0 0 [] (lk mxk lbn sd_f3h)
abbrev X_f1q : Type := TPg × Int
abbrev R_f1q : Type := Bool
def J_f1q : BH Tryz.prog :=
 BN Tryz.prog Tryz.f21 43 [(2, 3)] [] [] [] [.any] [] [] R_f1q [] fun y => [V.bool y]
def S_f1q : AO :=
 Ah Tryz.f21 2 0 X_f1q (fun x => [e_TPg x.1, (V.int .i64) x.2]) fun l => (d_TPg (at_ l 0), dI (at_ l 1))
structure X_f1q_3 where
 HI : Int
 SN : TPg
def S_f1q_3 : AO :=
 Ad Tryz.f21 3 (an [1, 2]) [] [] X_f1q_3 (fun x => [(V.int .i64) x.HI, (CU e_TPg) x.SN]) fun l => ⟨dI (at_ l 0), (CV d_TPg) (at_ l 1)⟩
structure X_f1q_5 where
 HI : Int
 SN : TPg
 n_5 : Int
 KN : Int
def S_f1q_5 : AO :=
 Ad Tryz.f21 5 (an [1, 2, 5, 6]) [] [] X_f1q_5 (fun x => [(V.int .i64) x.HI, (CU e_TPg) x.SN, (V.int .i64) x.n_5, (V.int .i64) x.KN]) fun l => ⟨dI (at_ l 0), (CV d_TPg) (at_ l 1), dI (at_ l 2), dI (at_ l 3)⟩
def tt_f1q_5 (D_f1q_5 : AU X_f1q_5 R_f1q) (x : X_f1q_5) : TT Tryz.prog R_f1q :=
 (.ite (Bg x.KN ((x.SN.AB.n : Nat) : Int))
 (.need (A3 x.KN x.SN.AB.n) <|
 (.ite (Bg x.HI (((x.SN.AB.get (Int.toNat x.KN)).n : Nat) : Int))
 (.ret false)
 (.need (A3 x.KN x.SN.AB.n) <|
 (.AM S_f1q_5 D_f1q_5 (X_f1q_5.mk x.HI x.SN (IntKind.i64.wrap (x.n_5 + (((x.SN.AB.get (Int.toNat x.KN)).n : Nat) : Int))) (IntKind.i64.wrap (x.KN + 1)))))))
 (.ret (Bm x.n_5 x.HI)))
theorem sd_f1q_5 (D_f1q_5 : AU X_f1q_5 R_f1q) (x : X_f1q_5) : (tt_f1q_5 D_f1q_5 x).AJ :=
 (TT.sI (TT.sN (TT.sI TT.sR (TT.sN TT.sJ))) TT.sR)
def D_f1q_5 : AU X_f1q_5 R_f1q := AU.loop tt_f1q_5
theorem ok_f1q_5 : AY J_f1q S_f1q_5 D_f1q_5 :=
 A5 fun D_f1q_5 h_5 => lk mxk (lbc h_5 rfl lbn) (sd_f1q_5 D_f1q_5)
def tt_f1q_3 (x : X_f1q_3) : TT Tryz.prog R_f1q :=
 (.AM S_f1q_5 D_f1q_5 (X_f1q_5.mk x.HI x.SN 0 0))
theorem sd_f1q_3 (x : X_f1q_3) : (tt_f1q_3 x).AJ :=
 TT.sJ
def D_f1q_3 : AU X_f1q_3 R_f1q := .of tt_f1q_3
theorem ok_f1q_3 : AY J_f1q S_f1q_3 D_f1q_3 :=
 lk mxk (lbc ok_f1q_5 rfl lbn) sd_f1q_3
def tt_f1q (x : X_f1q) : TT Tryz.prog R_f1q :=
 (.ite (Bg 10 ((x.fst.AF.n : Nat) : Int))
 (.ret false)
 (.ite (Bg 10 ((x.fst.AB.n : Nat) : Int))
 (.ret false)
 (.AM S_f1q_3 D_f1q_3 (X_f1q_3.mk x.snd x.fst))))
theorem sd_f1q (x : X_f1q) : (tt_f1q x).AJ :=
 (TT.sI TT.sR (TT.sI TT.sR TT.sJ))
def D_f1q : AU X_f1q R_f1q := .of tt_f1q
def con_f1q : BC Tryz.prog :=
 Br 21 J_f1q S_f1q D_f1q 2 0 [sh_TPg, .any] (lk mxk (lbc ok_f1q_5 rfl (lbc ok_f1q_3 rfl lbn)) sd_f1q)
abbrev X_f46 : Type := TRg
abbrev R_f46 : Type := Bool
def J_f46 : BH Tryz.prog :=
 BN Tryz.prog Tryz.f146 36 [(1, 3)] [] [] [] [.any] [] [] R_f46 [] fun y => [V.bool y]
def S_f46 : AO :=
 Ah Tryz.f146 1 0 X_f46 (fun x => [e_TRg x]) fun l => (d_TRg (at_ l 0))
def tt_f46 (x : X_f46) : TT Tryz.prog R_f46 :=
 (.ite (Bm 1 x.DE)
 (.ite (Bm x.DE 64)
 (.ite (AW x.Kind 1)
 (.ite (AW x.AR 1)
 (.ret true)
 (.ite (AW x.Kind 2)
 (.ite (Bm 1 x.AR)
 (.ret (Bm x.AR 8))
 (.ret false))
 (.ret false)))
 (.ite (AW x.Kind 2)
 (.ite (Bm 1 x.AR)
 (.ret (Bm x.AR 8))
 (.ret false))
 (.ret false)))
 (.ret false))
 (.ret false))
theorem sd_f46 (x : X_f46) : (tt_f46 x).AJ :=
 (TT.sI (TT.sI (TT.sI (TT.sI TT.sR (TT.sI (TT.sI TT.sR TT.sR) TT.sR)) (TT.sI (TT.sI TT.sR TT.sR) TT.sR)) TT.sR) TT.sR)
def D_f46 : AU X_f46 R_f46 := .of tt_f46
def con_f46 : BC Tryz.prog :=
 Br 146 J_f46 S_f46 D_f46 1 0 [.any] (lk mxk lbn sd_f46)
abbrev X_f47 : Type := Int
abbrev R_f47 : Type := ByteArray
def J_f47 : BH Tryz.prog :=
 BN Tryz.prog Tryz.f178 53 [] [] [] [] [.any] [] [] R_f47 [] fun y => [V.str y]
def S_f47 : AO :=
 Ah Tryz.f178 1 0 X_f47 (fun x => [(V.int .i64) x]) fun l => (dI (at_ l 0))
def tt_f47 (x : X_f47) : TT Tryz.prog R_f47 :=
 (.ite (AW x 1)
 (.ret (ByteArray.mk #[114, 48, 48, 48, 110]))
 (.ite (AW x 2)
 (.ret (ByteArray.mk #[114, 114, 48, 48, 48]))
 (.ite (AW x 23)
 (.ret (ByteArray.mk #[114, 114, 48, 48, 48]))
 (.ite (Bm 3 x)
 (.ite (Bm x 14)
 (.ret (ByteArray.mk #[114, 114, 114, 48, 48]))
 (.ite (AW x 15)
 (.ret (ByteArray.mk #[48, 48, 48, 48, 112]))
 (.ite (AW x 16)
 (.ret (ByteArray.mk #[114, 48, 48, 48, 112]))
 (.ite (AW x 17)
 (.ret (ByteArray.mk #[114, 48, 48, 48, 112]))
 (.ite (AW x 18)
 (.ret (ByteArray.mk #[114, 114, 103, 109, 48]))
 (.ite (AW x 19)
 (.ret (ByteArray.mk #[114, 114, 103, 109, 100]))
 (.ite (AW x 20)
 (.ret (ByteArray.mk #[48, 48, 103, 48, 48]))
 (.ite (AW x 21)
 (.ret (ByteArray.mk #[114, 48, 48, 48, 48]))
 (.ite (AW x 22)
 (.ret (ByteArray.mk #[114, 48, 48, 48, 48]))
 (.ite (AW x 24)
 (.ret (ByteArray.mk #[114, 48, 48, 48, 48]))
 (.ite (AW x 25)
 (.ret (ByteArray.mk #[48, 48, 48, 48, 48]))
 (.ret (ByteArray.mk #[])))))))))))))
 (.ite (AW x 15)
 (.ret (ByteArray.mk #[48, 48, 48, 48, 112]))
 (.ite (AW x 16)
 (.ret (ByteArray.mk #[114, 48, 48, 48, 112]))
 (.ite (AW x 17)
 (.ret (ByteArray.mk #[114, 48, 48, 48, 112]))
 (.ite (AW x 18)
 (.ret (ByteArray.mk #[114, 114, 103, 109, 48]))
 (.ite (AW x 19)
 (.ret (ByteArray.mk #[114, 114, 103, 109, 100]))
 (.ite (AW x 20)
 (.ret (ByteArray.mk #[48, 48, 103, 48, 48]))
 (.ite (AW x 21)
 (.ret (ByteArray.mk #[114, 48, 48, 48, 48]))
 (.ite (AW x 22)
 (.ret (ByteArray.mk #[114, 48, 48, 48, 48]))
 (.ite (AW x 24)
 (.ret (ByteArray.mk #[114, 48, 48, 48, 48]))
 (.ite (AW x 25)
 (.ret (ByteArray.mk #[48, 48, 48, 48, 48]))
 (.ret (ByteArray.mk #[]))))))))))))))))
theorem sd_f47 (x : X_f47) : (tt_f47 x).AJ :=
 (TT.sI TT.sR (TT.sI TT.sR (TT.sI TT.sR (TT.sI (TT.sI TT.sR (TT.sI TT.sR (TT.sI TT.sR (TT.sI TT.sR (TT.sI TT.sR (TT.sI TT.sR (TT.sI TT.sR (TT.sI TT.sR (TT.sI TT.sR (TT.sI TT.sR (TT.sI TT.sR TT.sR))))))))))) (TT.sI TT.sR (TT.sI TT.sR (TT.sI TT.sR (TT.sI TT.sR (TT.sI TT.sR (TT.sI TT.sR (TT.sI TT.sR (TT.sI TT.sR (TT.sI TT.sR (TT.sI TT.sR TT.sR))))))))))))))
def D_f47 : AU X_f47 R_f47 := .of tt_f47
def con_f47 : BC Tryz.prog :=
 Br 178 J_f47 S_f47 D_f47 1 0 [.any] (lk mxk lbn sd_f47)
abbrev X_f43 : Type := Int
abbrev R_f43 : Type := Int
def J_f43 : BH Tryz.prog :=
 BN Tryz.prog Tryz.f179 14 [] [] [] [] [.any] [] [] R_f43 [] fun y => [(V.int .u64) y]
def S_f43 : AO :=
 Ah Tryz.f179 1 0 X_f43 (fun x => [(V.int .u8) x]) fun l => (dI (at_ l 0))
def tt_f43 (x : X_f43) : TT Tryz.prog R_f43 :=
 (.ite (AW x 114)
 (.ret 7)
 (.ite (AW x 103)
 (.ret 7)
 (.ite (AW x 100)
 (.ret 7)
 (.ite (AW x 109)
 (.ret 2)
 (.ite (AW x 112)
 (.ret 256)
 (.ite (AW x 110)
 (.ret 18446744073709551615)
 (.ret 0)))))))
theorem sd_f43 (x : X_f43) : (tt_f43 x).AJ :=
 (TT.sI TT.sR (TT.sI TT.sR (TT.sI TT.sR (TT.sI TT.sR (TT.sI TT.sR (TT.sI TT.sR TT.sR))))))
def D_f43 : AU X_f43 R_f43 := .of tt_f43
def con_f43 : BC Tryz.prog :=
 Br 179 J_f43 S_f43 D_f43 1 0 [.any] (lk mxk lbn sd_f43)
abbrev Qk : Type := (Sl Int)
def QX : Qk → V := (L4 none 1 (V.int .i64))
def QY : V → Qk := (Lk dI)
def QQ : Sh := (.sl none 1 (V.int .i64 0))
end Go.Proofs.YtiamaibincaihaaGreat
end
