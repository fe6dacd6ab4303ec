/- What functions of the program come to, part C: no statement is proved here. -/
import Derived.Test.YtiamaibincaihaaGreatGB
noncomputable section
namespace Go.Proofs.YtiamaibincaihaaGreat
open Go Go.Vm Go.Proofs
set_option maxRecDepth 100000
abbrev X_fl : Type := TIn
abbrev R_fl : Type := Bool
def J_fl : BM Tryz.prog :=
 BS Tryz.prog Tryz.f147 49 [(1, 3)] [] [] [] [.any] [] [con_f49, con_f45] R_fl [] fun y => [V.bool y]
def S_fl : AO :=
 Aj Tryz.f147 1 0 X_fl (fun x => [e_TIn x]) fun l => (d_TIn (at_ l 0))
structure X_fl_4 where
 GP : TIn
 Nn : ByteArray
def S_fl_4 : AO :=
 Ad Tryz.f147 4 (an [1, 3]) [] [] X_fl_4 (fun x => [(Ch e_TIn) x.GP, V.str x.Nn]) fun l => ⟨(Ci d_TIn) (at_ l 0), dS (at_ l 1)⟩
structure X_fl_6 where
 Nn : ByteArray
 Ue : (Sl Int)
 SN : Int
def S_fl_6 : AO :=
 Ad Tryz.f147 6 [(3, .any), (4, Qo), (5, .any)] [] [] X_fl_6 (fun x => [V.str x.Nn, Qu x.Ue, (V.int .i64) x.SN]) fun l => ⟨dS (at_ l 0), Qv (at_ l 1), dI (at_ l 2)⟩
structure X_fl_7 where
 Nn : ByteArray
 Ue : (Sl Int)
 SN : Int
def S_fl_7 : AO :=
 Ad Tryz.f147 7 [(3, .any), (4, Qo), (5, .any)] [] [] X_fl_7 (fun x => [V.str x.Nn, Qu x.Ue, (V.int .i64) x.SN]) fun l => ⟨dS (at_ l 0), Qv (at_ l 1), dI (at_ l 2)⟩
def tt_fl_7 (D_fl_6 : AU X_fl_6 R_fl) (x : X_fl_7) : TT Tryz.prog R_fl :=
 (.AM S_fl_6 D_fl_6 (X_fl_6.mk x.Nn x.Ue (IntKind.i64.wrap (x.SN + 1))))
theorem sd_fl_7 (D_fl_6 : AU X_fl_6 R_fl) (x : X_fl_7) : (tt_fl_7 D_fl_6 x).AJ :=
 TT.sJ
def D_fl_7 (D_fl_6 : AU X_fl_6 R_fl) : AU X_fl_7 R_fl := .of (tt_fl_7 D_fl_6)
theorem ok_fl_7 (D_fl_6 : AU X_fl_6 R_fl) (h_6 : AY J_fl S_fl_6 D_fl_6) : AY J_fl S_fl_7 (D_fl_7 D_fl_6) :=
 lk mxk (lbc h_6 rfl lbn) (sd_fl_7 D_fl_6)
def tt_fl_6 (D_fl_6 : AU X_fl_6 R_fl) (x : X_fl_6) : TT Tryz.prog R_fl :=
 (.ite (Bq x.SN 4)
 (.need (A6 x.SN x.Ue.n) <|
 (.ite (Bq (x.Ue.get (Int.toNat x.SN)) 0)
 (.ret false)
 (.need (A6 x.SN x.Ue.n) <|
 (.need (A6 x.SN (ByteArray.size x.Nn)) <|
 (.call con_f45 (bt x.Nn (Int.toNat x.SN)) fun (y2 : R_f45) =>
 (.ite (Bq y2 (IntKind.u64.wrap (x.Ue.get (Int.toNat x.SN))))
 (.ret false)
 (.AM S_fl_7 (D_fl_7 D_fl_6) (X_fl_7.mk x.Nn x.Ue x.SN))))))))
 (.ret true))
theorem sd_fl_6 (D_fl_6 : AU X_fl_6 R_fl) (x : X_fl_6) : (tt_fl_6 D_fl_6 x).AJ :=
 (TT.sI (TT.sN (TT.sI TT.sR (TT.sN (TT.sN (TT.sC fun _ => (TT.sI TT.sR TT.sJ)))))) TT.sR)
def D_fl_6 : AU X_fl_6 R_fl := AU.loop tt_fl_6
theorem ok_fl_6 : AY J_fl S_fl_6 D_fl_6 :=
 A8 fun D_fl_6 h_6 => lk mxk (lbc h_6 rfl (lbc (ok_fl_7 D_fl_6 h_6) rfl lbn)) (sd_fl_6 D_fl_6)
def tt_fl_4 (x : X_fl_4) : TT Tryz.prog R_fl :=
 (.AM S_fl_6 D_fl_6 (X_fl_6.mk x.Nn (Sl.mk false 4 (fun i1 => (cond (Nat.beq i1 0) x.GP.A (cond (Nat.beq i1 1) x.GP.B (cond (Nat.beq i1 2) x.GP.C x.GP.D))))) 0))
theorem sd_fl_4 (x : X_fl_4) : (tt_fl_4 x).AJ :=
 TT.sJ
def D_fl_4 : AU X_fl_4 R_fl := .of tt_fl_4
theorem ok_fl_4 : AY J_fl S_fl_4 D_fl_4 :=
 lk mxk (lbc ok_fl_6 rfl lbn) sd_fl_4
def tt_fl (x : X_fl) : TT Tryz.prog R_fl :=
 (.call con_f49 x.Op fun (y1 : R_f49) =>
 (.ite (seq y1 (ByteArray.mk #[]))
 (.ret false)
 (.need (A6 4 (ByteArray.size y1)) <|
 (.call con_f45 (bt y1 (Int.toNat 4)) fun (y2 : R_f45) =>
 (.ite (Bq y2 x.K)
 (.ret false)
 (.AM S_fl_4 D_fl_4 (X_fl_4.mk x y1)))))))
theorem sd_fl (x : X_fl) : (tt_fl x).AJ :=
 (TT.sC fun _ => (TT.sI TT.sR (TT.sN (TT.sC fun _ => (TT.sI TT.sR TT.sJ)))))
def D_fl : AU X_fl R_fl := .of tt_fl
def con_fl : BE Tryz.prog :=
 B2 147 J_fl S_fl D_fl 1 0 [.any] (lk mxk (lbc ok_fl_6 rfl (lbc ok_fl_4 rfl lbn)) sd_fl)
abbrev X_f26 : Type := TPg × TIn × Int
abbrev R_f26 : Type := Int
def J_f26 : BM Tryz.prog :=
 BS Tryz.prog Tryz.f148 56 [(3, 3), (4, 3)] [] [] [] [.any] [] [] R_f26 [] fun y => [(V.int .i64) y]
def S_f26 : AO :=
 Aj Tryz.f148 3 0 X_f26 (fun x => [e_TPg x.1, e_TIn x.2.1, (V.int .i64) x.2.2]) fun l => (d_TPg (at_ l 0), d_TIn (at_ l 1), dI (at_ l 2))
structure X_f26_3 where
 Fy : TPg
 EA : TIn
def S_f26_3 : AO :=
 Ad Tryz.f148 3 (an [3, 4]) [] [] X_f26_3 (fun x => [(Ch e_TPg) x.Fy, (Ch e_TIn) x.EA]) fun l => ⟨(Ci d_TPg) (at_ l 0), (Ci d_TIn) (at_ l 1)⟩
def tt_f26_3 (x : X_f26_3) : TT Tryz.prog R_f26 :=
 (.ite (Bw 18 x.EA.Op)
 (.ite (Bw x.EA.Op 20)
 (.ite (Bw ((x.Fy.AF.n : Nat) : Int) x.EA.C)
 (.ret 7)
 (.ite (AW x.EA.Op 19)
 (.need (A6 x.EA.C x.Fy.AF.n) <|
 (.ite (Bw (IntKind.u64.wrap (x.Fy.AF.get (Int.toNat x.EA.C)).AR) x.EA.K)
 (.ret 7)
 (.ret 0)))
 (.ret 0)))
 (.ite (AW x.EA.Op 19)
 (.need (A6 x.EA.C x.Fy.AF.n) <|
 (.ite (Bw (IntKind.u64.wrap (x.Fy.AF.get (Int.toNat x.EA.C)).AR) x.EA.K)
 (.ret 7)
 (.ret 0)))
 (.ret 0)))
 (.ite (AW x.EA.Op 19)
 (.need (A6 x.EA.C x.Fy.AF.n) <|
 (.ite (Bw (IntKind.u64.wrap (x.Fy.AF.get (Int.toNat x.EA.C)).AR) x.EA.K)
 (.ret 7)
 (.ret 0)))
 (.ret 0)))
theorem sd_f26_3 (x : X_f26_3) : (tt_f26_3 x).AJ :=
 (TT.sI (TT.sI (TT.sI TT.sR (TT.sI (TT.sN (TT.sI TT.sR TT.sR)) TT.sR)) (TT.sI (TT.sN (TT.sI TT.sR TT.sR)) TT.sR)) (TT.sI (TT.sN (TT.sI TT.sR TT.sR)) TT.sR))
def D_f26_3 : AU X_f26_3 R_f26 := .of tt_f26_3
theorem ok_f26_3 : AY J_f26 S_f26_3 D_f26_3 :=
 lk mxk lbn sd_f26_3
def tt_f26 (x : X_f26) : TT Tryz.prog R_f26 :=
 (.ite (Bw 15 x.snd.fst.Op)
 (.ite (Bw x.snd.fst.Op 17)
 (.ite (Bq (IntKind.u64.wrap x.snd.snd) x.snd.fst.K)
 (.ret 5)
 (.AM S_f26_3 D_f26_3 (X_f26_3.mk x.fst x.snd.fst)))
 (.AM S_f26_3 D_f26_3 (X_f26_3.mk x.fst x.snd.fst)))
 (.AM S_f26_3 D_f26_3 (X_f26_3.mk x.fst x.snd.fst)))
theorem sd_f26 (x : X_f26) : (tt_f26 x).AJ :=
 (TT.sI (TT.sI (TT.sI TT.sR TT.sJ) TT.sJ) TT.sJ)
def D_f26 : AU X_f26 R_f26 := .of tt_f26
def con_f26 : BE Tryz.prog :=
 B2 148 J_f26 S_f26 D_f26 3 0 [sh_TPg, .any, .any] (lk mxk (lbc ok_f26_3 rfl lbn) sd_f26)
abbrev X_f2 : Type := TPg
abbrev R_f2 : Type := Int × Int × Int
def J_f2 : BM Tryz.prog :=
 BS Tryz.prog Tryz.f97 81 [(1, 3)] [] [] [] [.any, .any, .any] [] [con_fl, con_f26, con_f48] R_f2 [] fun y => [V.Cb (V.cons ((V.int .i64) y.1) (V.cons ((V.int .i64) y.2.1) (V.cons ((V.int .i64) y.2.2) (V.unit))))]
def S_f2 : AO :=
 Aj Tryz.f97 1 0 X_f2 (fun x => [e_TPg x]) fun l => (d_TPg (at_ l 0))
structure X_f2_3 where
 DF : TPg
def S_f2_3 : AO :=
 Ad Tryz.f97 3 [(1, .any)] [] [] X_f2_3 (fun x => [(Ch e_TPg) x.DF]) fun l => ⟨(Ci d_TPg) (at_ l 0)⟩
structure X_f2_4 where
 DF : TPg
 D0 : Int
def S_f2_4 : AO :=
 Ad Tryz.f97 4 (an [1, 5]) [] [] X_f2_4 (fun x => [(Ch e_TPg) x.DF, (V.int .i64) x.D0]) fun l => ⟨(Ci d_TPg) (at_ l 0), dI (at_ l 1)⟩
structure X_f2_8 where
 DF : TPg
def S_f2_8 : AO :=
 Ad Tryz.f97 8 [(1, .any)] [] [] X_f2_8 (fun x => [(Ch e_TPg) x.DF]) fun l => ⟨(Ci d_TPg) (at_ l 0)⟩
structure X_f2_9 where
 DF : TPg
 L3 : Int
def S_f2_9 : AO :=
 Ad Tryz.f97 9 (an [1, 6]) [] [] X_f2_9 (fun x => [(Ch e_TPg) x.DF, (V.int .i64) x.L3]) fun l => ⟨(Ci d_TPg) (at_ l 0), dI (at_ l 1)⟩
structure X_f2_10 where
 DF : TPg
 L3 : Int
def S_f2_10 : AO :=
 Ad Tryz.f97 10 (an [1, 6]) [] [] X_f2_10 (fun x => [(Ch e_TPg) x.DF, (V.int .i64) x.L3]) fun l => ⟨(Ci d_TPg) (at_ l 0), dI (at_ l 1)⟩
structure X_f2_15 where
 DF : TPg
 L3 : Int
 P9 : (Sl TIn)
 QA : Int
def S_f2_15 : AO :=
 Ad Tryz.f97 15 [(1, .any), (6, .any), (7, hsl_TIn), (8, .any)] [] [] X_f2_15 (fun x => [(Ch e_TPg) x.DF, (V.int .i64) x.L3, esl_TIn x.P9, (V.int .i64) x.QA]) fun l => ⟨(Ci d_TPg) (at_ l 0), dI (at_ l 1), dsl_TIn (at_ l 2), dI (at_ l 3)⟩
structure X_f2_16 where
 DF : TPg
 L3 : Int
 P9 : (Sl TIn)
 QA : Int
def S_f2_16 : AO :=
 Ad Tryz.f97 16 [(1, .any), (6, .any), (7, hsl_TIn), (8, .any)] [] [] X_f2_16 (fun x => [(Ch e_TPg) x.DF, (V.int .i64) x.L3, esl_TIn x.P9, (V.int .i64) x.QA]) fun l => ⟨(Ci d_TPg) (at_ l 0), dI (at_ l 1), dsl_TIn (at_ l 2), dI (at_ l 3)⟩
structure X_f2_20 where
 DF : TPg
 L3 : Int
 P9 : (Sl TIn)
 QA : Int
 e_9 : Int
def S_f2_20 : AO :=
 Ad Tryz.f97 20 [(1, .any), (6, .any), (7, hsl_TIn), (8, .any), (9, .any)] [] [] X_f2_20 (fun x => [(Ch e_TPg) x.DF, (V.int .i64) x.L3, esl_TIn x.P9, (V.int .i64) x.QA, (V.int .i64) x.e_9]) fun l => ⟨(Ci d_TPg) (at_ l 0), dI (at_ l 1), dsl_TIn (at_ l 2), dI (at_ l 3), dI (at_ l 4)⟩
def tt_f2_10 (D_f2_9 : AU X_f2_9 R_f2) (x : X_f2_10) : TT Tryz.prog R_f2 :=
 (.AM S_f2_9 D_f2_9 (X_f2_9.mk x.DF (IntKind.i64.wrap (x.L3 + 1))))
theorem sd_f2_10 (D_f2_9 : AU X_f2_9 R_f2) (x : X_f2_10) : (tt_f2_10 D_f2_9 x).AJ :=
 TT.sJ
def D_f2_10 (D_f2_9 : AU X_f2_9 R_f2) : AU X_f2_10 R_f2 := .of (tt_f2_10 D_f2_9)
theorem ok_f2_10 (D_f2_9 : AU X_f2_9 R_f2) (h_9 : AY J_f2 S_f2_9 D_f2_9) : AY J_f2 S_f2_10 (D_f2_10 D_f2_9) :=
 lk mxk (lbc h_9 rfl lbn) (sd_f2_10 D_f2_9)
def tt_f2_16 (D_f2_9 : AU X_f2_9 R_f2) (D_f2_15 : AU X_f2_15 R_f2) (x : X_f2_16) : TT Tryz.prog R_f2 :=
 (.AM S_f2_15 D_f2_15 (X_f2_15.mk x.DF x.L3 x.P9 (IntKind.i64.wrap (x.QA + 1))))
theorem sd_f2_16 (D_f2_9 : AU X_f2_9 R_f2) (D_f2_15 : AU X_f2_15 R_f2) (x : X_f2_16) : (tt_f2_16 D_f2_9 D_f2_15 x).AJ :=
 TT.sJ
def D_f2_16 (D_f2_9 : AU X_f2_9 R_f2) (D_f2_15 : AU X_f2_15 R_f2) : AU X_f2_16 R_f2 := .of (tt_f2_16 D_f2_9 D_f2_15)
theorem ok_f2_16 (D_f2_9 : AU X_f2_9 R_f2) (D_f2_15 : AU X_f2_15 R_f2) (h_9 : AY J_f2 S_f2_9 D_f2_9) (h_15 : AY J_f2 S_f2_15 D_f2_15) : AY J_f2 S_f2_16 (D_f2_16 D_f2_9 D_f2_15) :=
 lk mxk (lbc h_9 rfl (lbc h_15 rfl (lbc (ok_f2_10 D_f2_9 h_9) rfl lbn))) (sd_f2_16 D_f2_9 D_f2_15)
def tt_f2_20 (D_f2_9 : AU X_f2_9 R_f2) (D_f2_15 : AU X_f2_15 R_f2) (x : X_f2_20) : TT Tryz.prog R_f2 :=
 (.ite (!(AW x.e_9 0))
 (.ret (x.L3, (x.QA, x.e_9)))
 (.AM S_f2_16 (D_f2_16 D_f2_9 D_f2_15) (X_f2_16.mk x.DF x.L3 x.P9 x.QA)))
theorem sd_f2_20 (D_f2_9 : AU X_f2_9 R_f2) (D_f2_15 : AU X_f2_15 R_f2) (x : X_f2_20) : (tt_f2_20 D_f2_9 D_f2_15 x).AJ :=
 (TT.sI TT.sR TT.sJ)
def D_f2_20 (D_f2_9 : AU X_f2_9 R_f2) (D_f2_15 : AU X_f2_15 R_f2) : AU X_f2_20 R_f2 := .of (tt_f2_20 D_f2_9 D_f2_15)
theorem ok_f2_20 (D_f2_9 : AU X_f2_9 R_f2) (D_f2_15 : AU X_f2_15 R_f2) (h_9 : AY J_f2 S_f2_9 D_f2_9) (h_15 : AY J_f2 S_f2_15 D_f2_15) : AY J_f2 S_f2_20 (D_f2_20 D_f2_9 D_f2_15) :=
 lk mxk (lbc h_9 rfl (lbc h_15 rfl (lbc (ok_f2_10 D_f2_9 h_9) rfl (lbc (ok_f2_16 D_f2_9 D_f2_15 h_9 h_15) rfl lbn)))) (sd_f2_20 D_f2_9 D_f2_15)
def tt_f2_15 (D_f2_9 : AU X_f2_9 R_f2) (D_f2_15 : AU X_f2_15 R_f2) (x : X_f2_15) : TT Tryz.prog R_f2 :=
 (.ite (Bq x.QA ((x.P9.n : Nat) : Int))
 (.need (A6 x.QA x.P9.n) <|
 (.call con_fl (x.P9.get (Int.toNat x.QA)) fun (y3 : R_fl) =>
 (.ite y3
 (.need (A6 x.QA x.P9.n) <|
 (.call con_f26 (x.DF, ((x.P9.get (Int.toNat x.QA)), ((x.P9.n : Nat) : Int))) fun (y4 : R_f26) =>
 (.AM S_f2_20 (D_f2_20 D_f2_9 D_f2_15) (X_f2_20.mk x.DF x.L3 x.P9 x.QA y4))))
 (.AM S_f2_20 (D_f2_20 D_f2_9 D_f2_15) (X_f2_20.mk x.DF x.L3 x.P9 x.QA 6)))))
 (.AM S_f2_10 (D_f2_10 D_f2_9) (X_f2_10.mk x.DF x.L3)))
theorem sd_f2_15 (D_f2_9 : AU X_f2_9 R_f2) (D_f2_15 : AU X_f2_15 R_f2) (x : X_f2_15) : (tt_f2_15 D_f2_9 D_f2_15 x).AJ :=
 (TT.sI (TT.sN (TT.sC fun _ => (TT.sI (TT.sN (TT.sC fun _ => TT.sJ)) TT.sJ))) TT.sJ)
def D_f2_15 (D_f2_9 : AU X_f2_9 R_f2) : AU X_f2_15 R_f2 := AU.loop (tt_f2_15 D_f2_9)
theorem ok_f2_15 (D_f2_9 : AU X_f2_9 R_f2) (h_9 : AY J_f2 S_f2_9 D_f2_9) : AY J_f2 S_f2_15 (D_f2_15 D_f2_9) :=
 A8 fun D_f2_15 h_15 => lk mxk (lbc h_9 rfl (lbc h_15 rfl (lbc (ok_f2_10 D_f2_9 h_9) rfl (lbc (ok_f2_16 D_f2_9 D_f2_15 h_9 h_15) rfl (lbc (ok_f2_20 D_f2_9 D_f2_15 h_9 h_15) rfl lbn))))) (sd_f2_15 D_f2_9 D_f2_15)
def tt_f2_9 (D_f2_9 : AU X_f2_9 R_f2) (x : X_f2_9) : TT Tryz.prog R_f2 :=
 (.ite (Bq x.L3 ((x.DF.AB.n : Nat) : Int))
 (.need (A6 x.L3 x.DF.AB.n) <|
 (.ite (Bq 256 (((x.DF.AB.get (Int.toNat x.L3)).n : Nat) : Int))
 (.ret (x.L3, (256, 4)))
 (.AM S_f2_15 (D_f2_15 D_f2_9) (X_f2_15.mk x.DF x.L3 (x.DF.AB.get (Int.toNat x.L3)) 0))))
 (.ret (0, (0, 0))))
theorem sd_f2_9 (D_f2_9 : AU X_f2_9 R_f2) (x : X_f2_9) : (tt_f2_9 D_f2_9 x).AJ :=
 (TT.sI (TT.sN (TT.sI TT.sR TT.sJ)) TT.sR)
def D_f2_9 : AU X_f2_9 R_f2 := AU.loop tt_f2_9
theorem ok_f2_9 : AY J_f2 S_f2_9 D_f2_9 :=
 A8 fun D_f2_9 h_9 => lk mxk (lbc h_9 rfl (lbc (ok_f2_10 D_f2_9 h_9) rfl (lbc (ok_f2_15 D_f2_9 h_9) rfl lbn))) (sd_f2_9 D_f2_9)
def tt_f2_8 (x : X_f2_8) : TT Tryz.prog R_f2 :=
 (.AM S_f2_9 D_f2_9 (X_f2_9.mk x.DF 0))
theorem sd_f2_8 (x : X_f2_8) : (tt_f2_8 x).AJ :=
 TT.sJ
def D_f2_8 : AU X_f2_8 R_f2 := .of tt_f2_8
theorem ok_f2_8 : AY J_f2 S_f2_8 D_f2_8 :=
 lk mxk (lbc ok_f2_9 rfl lbn) sd_f2_8
def tt_f2_4 (D_f2_4 : AU X_f2_4 R_f2) (x : X_f2_4) : TT Tryz.prog R_f2 :=
 (.ite (Bq x.D0 ((x.DF.AF.n : Nat) : Int))
 (.need (A6 x.D0 x.DF.AF.n) <|
 (.call con_f48 (x.DF.AF.get (Int.toNat x.D0)) fun (y2 : R_f48) =>
 (.ite (!y2)
 (.ret ((-(1 : Int)), (x.D0, 7)))
 (.AM S_f2_4 D_f2_4 (X_f2_4.mk x.DF (IntKind.i64.wrap (x.D0 + 1)))))))
 (.AM S_f2_8 D_f2_8 (X_f2_8.mk x.DF)))
theorem sd_f2_4 (D_f2_4 : AU X_f2_4 R_f2) (x : X_f2_4) : (tt_f2_4 D_f2_4 x).AJ :=
 (TT.sI (TT.sN (TT.sC fun _ => (TT.sI TT.sR TT.sJ))) TT.sJ)
def D_f2_4 : AU X_f2_4 R_f2 := AU.loop tt_f2_4
theorem ok_f2_4 : AY J_f2 S_f2_4 D_f2_4 :=
 A8 fun D_f2_4 h_4 => lk mxk (lbc h_4 rfl (lbc ok_f2_9 rfl (lbc ok_f2_8 rfl lbn))) (sd_f2_4 D_f2_4)
def tt_f2_3 (x : X_f2_3) : TT Tryz.prog R_f2 :=
 (.AM S_f2_4 D_f2_4 (X_f2_4.mk x.DF 0))
theorem sd_f2_3 (x : X_f2_3) : (tt_f2_3 x).AJ :=
 TT.sJ
def D_f2_3 : AU X_f2_3 R_f2 := .of tt_f2_3
theorem ok_f2_3 : AY J_f2 S_f2_3 D_f2_3 :=
 lk mxk (lbc ok_f2_9 rfl (lbc ok_f2_8 rfl (lbc ok_f2_4 rfl lbn))) sd_f2_3
def tt_f2 (x : X_f2) : TT Tryz.prog R_f2 :=
 (.ite (AW ((x.AB.n : Nat) : Int) 0)
 (.ret (0, (0, 1)))
 (.ite (Bq 8 ((x.AB.n : Nat) : Int))
 (.ret (0, (0, 1)))
 (.ite (Bq 8 ((x.AF.n : Nat) : Int))
 (.ret (0, (0, 1)))
 (.AM S_f2_3 D_f2_3 (X_f2_3.mk x)))))
theorem sd_f2 (x : X_f2) : (tt_f2 x).AJ :=
 (TT.sI TT.sR (TT.sI TT.sR (TT.sI TT.sR TT.sJ)))
def D_f2 : AU X_f2 R_f2 := .of tt_f2
def con_f2 : BE Tryz.prog :=
 B2 97 J_f2 S_f2 D_f2 1 0 [sh_TPg] (lk mxk (lbc ok_f2_9 rfl (lbc ok_f2_8 rfl (lbc ok_f2_4 rfl (lbc ok_f2_3 rfl lbn)))) sd_f2)
abbrev X_f43 : Type := TPg
abbrev R_f43 : Type := Bool
def J_f43 : BM Tryz.prog :=
 BS Tryz.prog Tryz.f55 14 [(1, 3), (6, 1)] [] [] [] [.any] [] [con_f2] R_f43 [] fun y => [V.bool y]
def S_f43 : AO :=
 Aj Tryz.f55 1 0 X_f43 (fun x => [e_TPg x]) fun l => (d_TPg (at_ l 0))
def tt_f43 (x : X_f43) : TT Tryz.prog R_f43 :=
 (.call con_f2 x fun (y1 : R_f2) =>
 (.ret (AW y1.snd.snd 0)))
theorem sd_f43 (x : X_f43) : (tt_f43 x).AJ :=
 (TT.sC fun _ => TT.sR)
def D_f43 : AU X_f43 R_f43 := .of tt_f43
def con_f43 : BE Tryz.prog :=
 B2 55 J_f43 S_f43 D_f43 1 0 [sh_TPg] (lk mxk lbn sd_f43)
abbrev X_f44 : Type := TPg
abbrev R_f44 : Type := Bool
def J_f44 : BM Tryz.prog :=
 BS Tryz.prog Tryz.f24 5 [(1, 3)] [] [] [] [.any] [] [con_f43] R_f44 [] fun y => [V.bool y]
def S_f44 : AO :=
 Aj Tryz.f24 1 0 X_f44 (fun x => [e_TPg x]) fun l => (d_TPg (at_ l 0))
def tt_f44 (x : X_f44) : TT Tryz.prog R_f44 :=
 (.call con_f43 x fun (y1 : R_f43) =>
 (.ret y1))
theorem sd_f44 (x : X_f44) : (tt_f44 x).AJ :=
 (TT.sC fun _ => TT.sR)
def D_f44 : AU X_f44 R_f44 := .of tt_f44
def con_f44 : BE Tryz.prog :=
 B2 24 J_f44 S_f44 D_f44 1 0 [sh_TPg] (lk mxk lbn sd_f44)
abbrev X_f4k : Type := TPg
abbrev R_f4k : Type := Bool
def J_f4k : BM Tryz.prog :=
 BS Tryz.prog Tryz.f12 9 [(1, 3)] [] [] [] [.any] [] [con_f1r, con_f44] R_f4k [] fun y => [V.bool y]
def S_f4k : AO :=
 Aj Tryz.f12 1 0 X_f4k (fun x => [e_TPg x]) fun l => (d_TPg (at_ l 0))
def tt_f4k (x : X_f4k) : TT Tryz.prog R_f4k :=
 (.call con_f1r (x, 100) fun (y1 : R_f1r) =>
 (.ite y1
 (.call con_f44 x fun (y2 : R_f44) =>
 (.ret y2))
 (.ret false)))
theorem sd_f4k (x : X_f4k) : (tt_f4k x).AJ :=
 (TT.sC fun _ => (TT.sI (TT.sC fun _ => TT.sR) TT.sR))
def D_f4k : AU X_f4k R_f4k := .of tt_f4k
def con_f4k : BE Tryz.prog :=
 B2 12 J_f4k S_f4k D_f4k 1 0 [sh_TPg] (lk mxk lbn sd_f4k)
abbrev X_f28 : Type := (Sl Int) × (Sl Int)
abbrev R_f28 : Type := Bool
def J_f28 : BM Tryz.prog :=
 BS Tryz.prog Tryz.f29 26 [] [] [] [] [.any] [] [] R_f28 [] fun y => [V.bool y]
def S_f28 : AO :=
 Aj Tryz.f29 2 0 X_f28 (fun x => [BG x.1, BG x.2]) fun l => (Bc (at_ l 0), Bc (at_ l 1))
structure X_f28_4 where
 L2 : (Sl Int)
 M1 : (Sl Int)
 D0 : Int
def S_f28_4 : AO :=
 Ad Tryz.f29 4 [(0, BP), (1, BP), (5, .any)] [] [] X_f28_4 (fun x => [BG x.L2, BG x.M1, (V.int .i64) x.D0]) fun l => ⟨Bc (at_ l 0), Bc (at_ l 1), dI (at_ l 2)⟩
def tt_f28_4 (D_f28_4 : AU X_f28_4 R_f28) (x : X_f28_4) : TT Tryz.prog R_f28 :=
 (.ite (Bq x.D0 ((x.L2.n : Nat) : Int))
 (.need (A6 x.D0 x.L2.n) <|
 (.need (A6 x.D0 x.M1.n) <|
 (.ite (!(AW (x.L2.get (Int.toNat x.D0)) (x.M1.get (Int.toNat x.D0))))
 (.ret false)
 (.AM S_f28_4 D_f28_4 (X_f28_4.mk x.L2 x.M1 (IntKind.i64.wrap (x.D0 + 1)))))))
 (.ret true))
theorem sd_f28_4 (D_f28_4 : AU X_f28_4 R_f28) (x : X_f28_4) : (tt_f28_4 D_f28_4 x).AJ :=
 (TT.sI (TT.sN (TT.sN (TT.sI TT.sR TT.sJ))) TT.sR)
def D_f28_4 : AU X_f28_4 R_f28 := AU.loop tt_f28_4
theorem ok_f28_4 : AY J_f28 S_f28_4 D_f28_4 :=
 A8 fun D_f28_4 h_4 => lk mxk (lbc h_4 rfl lbn) (sd_f28_4 D_f28_4)
def tt_f28 (x : X_f28) : TT Tryz.prog R_f28 :=
 (.ite (!(AW ((x.fst.n : Nat) : Int) ((x.snd.n : Nat) : Int)))
 (.ret false)
 (.AM S_f28_4 D_f28_4 (X_f28_4.mk x.fst x.snd 0)))
theorem sd_f28 (x : X_f28) : (tt_f28 x).AJ :=
 (TT.sI TT.sR TT.sJ)
def D_f28 : AU X_f28 R_f28 := .of tt_f28
def con_f28 : BE Tryz.prog :=
 B2 29 J_f28 S_f28 D_f28 2 0 [BP, BP] (lk mxk (lbc ok_f28_4 rfl lbn) sd_f28)
abbrev X_f4a : Type := TTh × TTh
abbrev R_f4a : Type := Bool
def J_f4a : BM Tryz.prog :=
 BS Tryz.prog Tryz.f44 52 [(2, 3), (3, 3)] [] [] [] [.any] [] [con_f28] R_f4a [] fun y => [V.bool y]
def S_f4a : AO :=
 Aj Tryz.f44 2 0 X_f4a (fun x => [e_TTh x.1, e_TTh x.2]) fun l => (d_TTh (at_ l 0), d_TTh (at_ l 1))
def tt_f4a (x : X_f4a) : TT Tryz.prog R_f4a :=
 (.ite (AW x.fst.At x.snd.At)
 (.ite (AW x.fst.Phase x.snd.Phase)
 (.ite (AW x.fst.Ring x.snd.Ring)
 (.ite (AW x.fst.Status x.snd.Status)
 (.ite (AW x.fst.AG x.snd.AG)
 (.ite ((AW (x.fst.Ae 0) (x.snd.Ae 0)) && ((AW (x.fst.Ae 1) (x.snd.Ae 1)) && ((AW (x.fst.Ae 2) (x.snd.Ae 2)) && ((AW (x.fst.Ae 3) (x.snd.Ae 3)) && ((AW (x.fst.Ae 4) (x.snd.Ae 4)) && ((AW (x.fst.Ae 5) (x.snd.Ae 5)) && ((AW (x.fst.Ae 6) (x.snd.Ae 6)) && ((AW (x.fst.Ae 7) (x.snd.Ae 7)) && true))))))))
 (.call con_f28 (x.fst.Seen, x.snd.Seen) fun (y1 : R_f28) =>
 (.ret y1))
 (.ret false))
 (.ret false))
 (.ret false))
 (.ret false))
 (.ret false))
 (.ret false))
theorem sd_f4a (x : X_f4a) : (tt_f4a x).AJ :=
 (TT.sI (TT.sI (TT.sI (TT.sI (TT.sI (TT.sI (TT.sC fun _ => TT.sR) TT.sR) TT.sR) TT.sR) TT.sR) TT.sR) TT.sR)
def D_f4a : AU X_f4a R_f4a := .of tt_f4a
def con_f4a : BE Tryz.prog :=
 B2 44 J_f4a S_f4a D_f4a 2 0 [sh_TTh, sh_TTh] (lk mxk lbn sd_f4a)
abbrev X_f29 : Type := (Sl TSo) × (Sl TSo)
abbrev R_f29 : Type := Bool
def J_f29 : BM Tryz.prog :=
 BS Tryz.prog Tryz.f83 26 [] [] [] [] [.any] [] [] R_f29 [] fun y => [V.bool y]
def S_f29 : AO :=
 Aj Tryz.f83 2 0 X_f29 (fun x => [esl_TSo x.1, esl_TSo x.2]) fun l => (dsl_TSo (at_ l 0), dsl_TSo (at_ l 1))
structure X_f29_4 where
 L2 : (Sl TSo)
 M1 : (Sl TSo)
 D0 : Int
def S_f29_4 : AO :=
 Ad Tryz.f83 4 [(0, hsl_TSo), (1, hsl_TSo), (5, .any)] [] [] X_f29_4 (fun x => [esl_TSo x.L2, esl_TSo x.M1, (V.int .i64) x.D0]) fun l => ⟨dsl_TSo (at_ l 0), dsl_TSo (at_ l 1), dI (at_ l 2)⟩
def tt_f29_4 (D_f29_4 : AU X_f29_4 R_f29) (x : X_f29_4) : TT Tryz.prog R_f29 :=
 (.ite (Bq x.D0 ((x.L2.n : Nat) : Int))
 (.need (A6 x.D0 x.L2.n) <|
 (.need (A6 x.D0 x.M1.n) <|
 (.ite (!((AW (x.L2.get (Int.toNat x.D0)).AP (x.M1.get (Int.toNat x.D0)).AP) && ((AW (x.L2.get (Int.toNat x.D0)).Value (x.M1.get (Int.toNat x.D0)).Value) && ((AW (x.L2.get (Int.toNat x.D0)).Left (x.M1.get (Int.toNat x.D0)).Left) && true))))
 (.ret false)
 (.AM S_f29_4 D_f29_4 (X_f29_4.mk x.L2 x.M1 (IntKind.i64.wrap (x.D0 + 1)))))))
 (.ret true))
theorem sd_f29_4 (D_f29_4 : AU X_f29_4 R_f29) (x : X_f29_4) : (tt_f29_4 D_f29_4 x).AJ :=
 (TT.sI (TT.sN (TT.sN (TT.sI TT.sR TT.sJ))) TT.sR)
def D_f29_4 : AU X_f29_4 R_f29 := AU.loop tt_f29_4
theorem ok_f29_4 : AY J_f29 S_f29_4 D_f29_4 :=
 A8 fun D_f29_4 h_4 => lk mxk (lbc h_4 rfl lbn) (sd_f29_4 D_f29_4)
def tt_f29 (x : X_f29) : TT Tryz.prog R_f29 :=
 (.ite (!(AW ((x.fst.n : Nat) : Int) ((x.snd.n : Nat) : Int)))
 (.ret false)
 (.AM S_f29_4 D_f29_4 (X_f29_4.mk x.fst x.snd 0)))
theorem sd_f29 (x : X_f29) : (tt_f29 x).AJ :=
 (TT.sI TT.sR TT.sJ)
def D_f29 : AU X_f29 R_f29 := .of tt_f29
def con_f29 : BE Tryz.prog :=
 B2 83 J_f29 S_f29 D_f29 2 0 [hsl_TSo, hsl_TSo] (lk mxk (lbc ok_f29_4 rfl lbn) sd_f29)
abbrev X_f1h : Type := TRs × TRs
abbrev R_f1h : Type := Bool
def J_f1h : BM Tryz.prog :=
 BS Tryz.prog Tryz.f45 53 [(2, 3), (3, 3)] [] [] [] [.any] [] [con_f29] R_f1h [] fun y => [V.bool y]
def S_f1h : AO :=
 Aj Tryz.f45 2 0 X_f1h (fun x => [e_TRs x.1, e_TRs x.2]) fun l => (d_TRs (at_ l 0), d_TRs (at_ l 1))
structure X_f1h_3 where
 Df : TRs
 Kn : TRs
def S_f1h_3 : AO :=
 Ad Tryz.f45 3 (an [2, 3]) [] [] X_f1h_3 (fun x => [(Ch e_TRs) x.Df, (Ch e_TRs) x.Kn]) fun l => ⟨(Ci d_TRs) (at_ l 0), (Ci d_TRs) (at_ l 1)⟩
structure X_f1h_4 where
 Df : TRs
 Kn : TRs
 D0 : Int
def S_f1h_4 : AO :=
 Ad Tryz.f45 4 (an [2, 3, 5]) [] [] X_f1h_4 (fun x => [(Ch e_TRs) x.Df, (Ch e_TRs) x.Kn, (V.int .i64) x.D0]) fun l => ⟨(Ci d_TRs) (at_ l 0), (Ci d_TRs) (at_ l 1), dI (at_ l 2)⟩
def tt_f1h_4 (D_f1h_4 : AU X_f1h_4 R_f1h) (x : X_f1h_4) : TT Tryz.prog R_f1h :=
 (.ite (Bq x.D0 ((x.Df.AV.n : Nat) : Int))
 (.need (A6 x.D0 x.Df.AV.n) <|
 (.need (A6 x.D0 x.Kn.AV.n) <|
 (.ite (!(AW (x.Df.AV.get (Int.toNat x.D0)) (x.Kn.AV.get (Int.toNat x.D0))))
 (.ret false)
 (.AM S_f1h_4 D_f1h_4 (X_f1h_4.mk x.Df x.Kn (IntKind.i64.wrap (x.D0 + 1)))))))
 (.ret true))
theorem sd_f1h_4 (D_f1h_4 : AU X_f1h_4 R_f1h) (x : X_f1h_4) : (tt_f1h_4 D_f1h_4 x).AJ :=
 (TT.sI (TT.sN (TT.sN (TT.sI TT.sR TT.sJ))) TT.sR)
def D_f1h_4 : AU X_f1h_4 R_f1h := AU.loop tt_f1h_4
theorem ok_f1h_4 : AY J_f1h S_f1h_4 D_f1h_4 :=
 A8 fun D_f1h_4 h_4 => lk mxk (lbc h_4 rfl lbn) (sd_f1h_4 D_f1h_4)
def tt_f1h_3 (x : X_f1h_3) : TT Tryz.prog R_f1h :=
 (.AM S_f1h_4 D_f1h_4 (X_f1h_4.mk x.Df x.Kn 0))
theorem sd_f1h_3 (x : X_f1h_3) : (tt_f1h_3 x).AJ :=
 TT.sJ
def D_f1h_3 : AU X_f1h_3 R_f1h := .of tt_f1h_3
theorem ok_f1h_3 : AY J_f1h S_f1h_3 D_f1h_3 :=
 lk mxk (lbc ok_f1h_4 rfl lbn) sd_f1h_3
def tt_f1h (x : X_f1h) : TT Tryz.prog R_f1h :=
 (.ite (!(AW x.fst.A0 x.snd.A0))
 (.ret false)
 (.ite (!(x.fst.As == x.snd.As))
 (.ret false)
 (.ite (!(AW ((x.fst.AV.n : Nat) : Int) ((x.snd.AV.n : Nat) : Int)))
 (.ret false)
 (.call con_f29 (x.fst.Al, x.snd.Al) fun (y1 : R_f29) =>
 (.ite (!y1)
 (.ret false)
 (.AM S_f1h_3 D_f1h_3 (X_f1h_3.mk x.fst x.snd)))))))
theorem sd_f1h (x : X_f1h) : (tt_f1h x).AJ :=
 (TT.sI TT.sR (TT.sI TT.sR (TT.sI TT.sR (TT.sC fun _ => (TT.sI TT.sR TT.sJ)))))
def D_f1h : AU X_f1h R_f1h := .of tt_f1h
def con_f1h : BE Tryz.prog :=
 B2 45 J_f1h S_f1h D_f1h 2 0 [sh_TRs, sh_TRs] (lk mxk (lbc ok_f1h_4 rfl (lbc ok_f1h_3 rfl lbn)) sd_f1h)
abbrev X_fi : Type := TSt × TSt
abbrev R_fi : Type := Bool
def J_fi : BM Tryz.prog :=
 BS Tryz.prog Tryz.f16 82 [(2, 3), (3, 3)] [] [] [] [.any] [] [con_f1h, con_f4a] R_fi [] fun y => [V.bool y]
def S_fi : AO :=
 Aj Tryz.f16 2 0 X_fi (fun x => [e_TSt x.1, e_TSt x.2]) fun l => (d_TSt (at_ l 0), d_TSt (at_ l 1))
structure X_fi_3 where
 Df : TSt
 Kn : TSt
def S_fi_3 : AO :=
 Ad Tryz.f16 3 (an [2, 3]) [] [] X_fi_3 (fun x => [(Ch e_TSt) x.Df, (Ch e_TSt) x.Kn]) fun l => ⟨(Ci d_TSt) (at_ l 0), (Ci d_TSt) (at_ l 1)⟩
structure X_fi_4 where
 Df : TSt
 Kn : TSt
 D0 : Int
def S_fi_4 : AO :=
 Ad Tryz.f16 4 (an [2, 3, 5]) [] [] X_fi_4 (fun x => [(Ch e_TSt) x.Df, (Ch e_TSt) x.Kn, (V.int .i64) x.D0]) fun l => ⟨(Ci d_TSt) (at_ l 0), (Ci d_TSt) (at_ l 1), dI (at_ l 2)⟩
structure X_fi_8 where
 Df : TSt
 Kn : TSt
def S_fi_8 : AO :=
 Ad Tryz.f16 8 (an [2, 3]) [] [] X_fi_8 (fun x => [(Ch e_TSt) x.Df, (Ch e_TSt) x.Kn]) fun l => ⟨(Ci d_TSt) (at_ l 0), (Ci d_TSt) (at_ l 1)⟩
structure X_fi_9 where
 Df : TSt
 Kn : TSt
 Kj : Int
def S_fi_9 : AO :=
 Ad Tryz.f16 9 (an [2, 3, 6]) [] [] X_fi_9 (fun x => [(Ch e_TSt) x.Df, (Ch e_TSt) x.Kn, (V.int .i64) x.Kj]) fun l => ⟨(Ci d_TSt) (at_ l 0), (Ci d_TSt) (at_ l 1), dI (at_ l 2)⟩
def tt_fi_9 (D_fi_9 : AU X_fi_9 R_fi) (x : X_fi_9) : TT Tryz.prog R_fi :=
 (.ite (Bq x.Kj ((x.Df.AF.n : Nat) : Int))
 (.need (A6 x.Kj x.Df.AF.n) <|
 (.need (A6 x.Kj x.Kn.AF.n) <|
 (.call con_f1h ((x.Df.AF.get (Int.toNat x.Kj)), (x.Kn.AF.get (Int.toNat x.Kj))) fun (y2 : R_f1h) =>
 (.ite (!y2)
 (.ret false)
 (.AM S_fi_9 D_fi_9 (X_fi_9.mk x.Df x.Kn (IntKind.i64.wrap (x.Kj + 1))))))))
 (.ret true))
theorem sd_fi_9 (D_fi_9 : AU X_fi_9 R_fi) (x : X_fi_9) : (tt_fi_9 D_fi_9 x).AJ :=
 (TT.sI (TT.sN (TT.sN (TT.sC fun _ => (TT.sI TT.sR TT.sJ)))) TT.sR)
def D_fi_9 : AU X_fi_9 R_fi := AU.loop tt_fi_9
theorem ok_fi_9 : AY J_fi S_fi_9 D_fi_9 :=
 A8 fun D_fi_9 h_9 => lk mxk (lbc h_9 rfl lbn) (sd_fi_9 D_fi_9)
def tt_fi_8 (x : X_fi_8) : TT Tryz.prog R_fi :=
 (.AM S_fi_9 D_fi_9 (X_fi_9.mk x.Df x.Kn 0))
theorem sd_fi_8 (x : X_fi_8) : (tt_fi_8 x).AJ :=
 TT.sJ
def D_fi_8 : AU X_fi_8 R_fi := .of tt_fi_8
theorem ok_fi_8 : AY J_fi S_fi_8 D_fi_8 :=
 lk mxk (lbc ok_fi_9 rfl lbn) sd_fi_8
def tt_fi_4 (D_fi_4 : AU X_fi_4 R_fi) (x : X_fi_4) : TT Tryz.prog R_fi :=
 (.ite (Bq x.D0 ((x.Df.AB.n : Nat) : Int))
 (.need (A6 x.D0 x.Df.AB.n) <|
 (.need (A6 x.D0 x.Kn.AB.n) <|
 (.call con_f4a ((x.Df.AB.get (Int.toNat x.D0)), (x.Kn.AB.get (Int.toNat x.D0))) fun (y2 : R_f4a) =>
 (.ite (!y2)
 (.ret false)
 (.AM S_fi_4 D_fi_4 (X_fi_4.mk x.Df x.Kn (IntKind.i64.wrap (x.D0 + 1))))))))
 (.AM S_fi_8 D_fi_8 (X_fi_8.mk x.Df x.Kn)))
theorem sd_fi_4 (D_fi_4 : AU X_fi_4 R_fi) (x : X_fi_4) : (tt_fi_4 D_fi_4 x).AJ :=
 (TT.sI (TT.sN (TT.sN (TT.sC fun _ => (TT.sI TT.sR TT.sJ)))) TT.sJ)
def D_fi_4 : AU X_fi_4 R_fi := AU.loop tt_fi_4
theorem ok_fi_4 : AY J_fi S_fi_4 D_fi_4 :=
 A8 fun D_fi_4 h_4 => lk mxk (lbc h_4 rfl (lbc ok_fi_9 rfl (lbc ok_fi_8 rfl lbn))) (sd_fi_4 D_fi_4)
def tt_fi_3 (x : X_fi_3) : TT Tryz.prog R_fi :=
 (.AM S_fi_4 D_fi_4 (X_fi_4.mk x.Df x.Kn 0))
theorem sd_fi_3 (x : X_fi_3) : (tt_fi_3 x).AJ :=
 TT.sJ
def D_fi_3 : AU X_fi_3 R_fi := .of tt_fi_3
theorem ok_fi_3 : AY J_fi S_fi_3 D_fi_3 :=
 lk mxk (lbc ok_fi_9 rfl (lbc ok_fi_8 rfl (lbc ok_fi_4 rfl lbn))) sd_fi_3
def tt_fi (x : X_fi) : TT Tryz.prog R_fi :=
 (.ite (!(AW ((x.fst.AB.n : Nat) : Int) ((x.snd.AB.n : Nat) : Int)))
 (.ret false)
 (.ite (!(AW ((x.fst.AF.n : Nat) : Int) ((x.snd.AF.n : Nat) : Int)))
 (.ret false)
 (.ite (!(AW x.fst.Ec x.snd.Ec))
 (.ret false)
 (.ite (!(AW x.fst.Reads x.snd.Reads))
 (.ret false)
 (.ite (!(x.fst.BO == x.snd.BO))
 (.ret false)
 (.AM S_fi_3 D_fi_3 (X_fi_3.mk x.fst x.snd)))))))
theorem sd_fi (x : X_fi) : (tt_fi x).AJ :=
 (TT.sI TT.sR (TT.sI TT.sR (TT.sI TT.sR (TT.sI TT.sR (TT.sI TT.sR TT.sJ)))))
def D_fi : AU X_fi R_fi := .of tt_fi
def con_fi : BE Tryz.prog :=
 B2 16 J_fi S_fi D_fi 2 0 [sh_TSt, sh_TSt] (lk mxk (lbc ok_fi_9 rfl (lbc ok_fi_8 rfl (lbc ok_fi_4 rfl (lbc ok_fi_3 rfl lbn)))) sd_fi)
abbrev X_f4m : Type := TPg × (Sl Int) × (Sl AZ)
abbrev R_f4m : Type := Bool
def J_f4m : BM Tryz.prog :=
 BS Tryz.prog Tryz.f7 78 [(3, 3), (32, 1), (34, 1), (35, 1), (39, 1), (47, 1), (49, 1), (50, 1)] [] [] [] [.any] [] [con_f24, con_fi, con_f3i, con_f4k, con_f9, con_fd] R_f4m [] fun y => [V.bool y]
def S_f4m : AO :=
 Aj Tryz.f7 3 0 X_f4m (fun x => [e_TPg x.1, BG x.2.1, BX x.2.2]) fun l => (d_TPg (at_ l 0), Bc (at_ l 1), B8 (at_ l 2))
structure X_f4m_3 where
 Bl : (Sl Int)
 A9 : (Sl AZ)
 Fy : TPg
def S_f4m_3 : AO :=
 Ad Tryz.f7 3 [(1, BP), (2, Bu), (3, .any)] [] [] X_f4m_3 (fun x => [BG x.Bl, BX x.A9, (Ch e_TPg) x.Fy]) fun l => ⟨Bc (at_ l 0), B8 (at_ l 1), (Ci d_TPg) (at_ l 2)⟩
def tt_f4m_3 (x : X_f4m_3) : TT Tryz.prog R_f4m :=
 (.call con_fd (x.Fy, (x.Bl, x.A9)) fun (y1 : R_fd) =>
 (.call con_f9 (x.Fy, y1.fst.Ay) fun (y2 : R_f9) =>
 (.call con_fd (x.Fy, (y2.fst, y2.snd.fst)) fun (y3 : R_fd) =>
 (.ite (AW y1.snd 0)
 (.ite (AW y2.snd.snd 0)
 (.ite (AW y3.snd 0)
 (.call con_f24 (y1.fst.Ay, y3.fst.Ay) fun (y4 : R_f24) =>
 (.ite y4
 (.call con_fi (y1.fst.State, y3.fst.State) fun (y5 : R_fi) =>
 (.ret y5))
 (.ret false)))
 (.ret false))
 (.ret false))
 (.ret false)))))
theorem sd_f4m_3 (x : X_f4m_3) : (tt_f4m_3 x).AJ :=
 (TT.sC fun _ => (TT.sC fun _ => (TT.sC fun _ => (TT.sI (TT.sI (TT.sI (TT.sC fun _ => (TT.sI (TT.sC fun _ => TT.sR) TT.sR)) TT.sR) TT.sR) TT.sR))))
def D_f4m_3 : AU X_f4m_3 R_f4m := .of tt_f4m_3
theorem ok_f4m_3 : AY J_f4m S_f4m_3 D_f4m_3 :=
 lk mxk lbn sd_f4m_3
def tt_f4m (x : X_f4m) : TT Tryz.prog R_f4m :=
 (.call con_f3i PUnit.unit fun (y1 : R_f3i) =>
 (.ite (!y1)
 (.call con_f3i PUnit.unit fun (y2 : R_f3i) =>
 (.ret y2))
 (.call con_f4k x.fst fun (y2 : R_f4k) =>
 (.ite (!y2)
 (.call con_f3i PUnit.unit fun (y3 : R_f3i) =>
 (.ret y3))
 (.ite (Bq 100 ((x.snd.fst.n : Nat) : Int))
 (.call con_f3i PUnit.unit fun (y3 : R_f3i) =>
 (.ret y3))
 (.ite (Bq 80 ((x.snd.snd.n : Nat) : Int))
 (.call con_f3i PUnit.unit fun (y3 : R_f3i) =>
 (.ret y3))
 (.AM S_f4m_3 D_f4m_3 (X_f4m_3.mk x.snd.fst x.snd.snd x.fst))))))))
theorem sd_f4m (x : X_f4m) : (tt_f4m x).AJ :=
 (TT.sC fun _ => (TT.sI (TT.sC fun _ => TT.sR) (TT.sC fun _ => (TT.sI (TT.sC fun _ => TT.sR) (TT.sI (TT.sC fun _ => TT.sR) (TT.sI (TT.sC fun _ => TT.sR) TT.sJ))))))
def D_f4m : AU X_f4m R_f4m := .of tt_f4m
def con_f4m : BE Tryz.prog :=
 B2 7 J_f4m S_f4m D_f4m 3 0 [sh_TPg, BP, Bu] (lk mxk (lbc ok_f4m_3 rfl lbn) sd_f4m)
end Go.Proofs.YtiamaibincaihaaGreat
end
