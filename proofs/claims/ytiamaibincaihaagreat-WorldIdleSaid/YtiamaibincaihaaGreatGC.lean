/- What functions of the program come to, part C: no statement is proved here. -/
import Derived.Test.YtiamaibincaihaaGreatGB
noncomputable section
namespace Go.Proofs.YtiamaibincaihaaGreat
open Go Go.Vm Go.Proofs
set_option maxRecDepth 100000
abbrev X_fl : Type := TIn
abbrev R_fl : Type := Bool
def J_fl : BM Tryz.prog :=
 BS Tryz.prog Tryz.f147 49 [(1, 3)] [] [] [] [.any] [] [con_f49, con_f45] R_fl [] fun y => [V.bool y]
def S_fl : AO :=
 Aj Tryz.f147 1 0 X_fl (fun x => [e_TIn x]) fun l => (d_TIn (at_ l 0))
structure X_fl_4 where
 GP : TIn
 Nn : ByteArray
def S_fl_4 : AO :=
 Ad Tryz.f147 4 (an [1, 3]) [] [] X_fl_4 (fun x => [(Ch e_TIn) x.GP, V.str x.Nn]) fun l => ⟨(Ci d_TIn) (at_ l 0), dS (at_ l 1)⟩
structure X_fl_6 where
 Nn : ByteArray
 Ue : (Sl Int)
 SN : Int
def S_fl_6 : AO :=
 Ad Tryz.f147 6 [(3, .any), (4, Qo), (5, .any)] [] [] X_fl_6 (fun x => [V.str x.Nn, Qu x.Ue, (V.int .i64) x.SN]) fun l => ⟨dS (at_ l 0), Qv (at_ l 1), dI (at_ l 2)⟩
structure X_fl_7 where
 Nn : ByteArray
 Ue : (Sl Int)
 SN : Int
def S_fl_7 : AO :=
 Ad Tryz.f147 7 [(3, .any), (4, Qo), (5, .any)] [] [] X_fl_7 (fun x => [V.str x.Nn, Qu x.Ue, (V.int .i64) x.SN]) fun l => ⟨dS (at_ l 0), Qv (at_ l 1), dI (at_ l 2)⟩
def tt_fl_7 (D_fl_6 : AU X_fl_6 R_fl) (x : X_fl_7) : TT Tryz.prog R_fl :=
 (.AM S_fl_6 D_fl_6 (X_fl_6.mk x.Nn x.Ue (IntKind.i64.wrap (x.SN + 1))))
theorem sd_fl_7 (D_fl_6 : AU X_fl_6 R_fl) (x : X_fl_7) : (tt_fl_7 D_fl_6 x).AJ :=
 TT.sJ
def D_fl_7 (D_fl_6 : AU X_fl_6 R_fl) : AU X_fl_7 R_fl := .of (tt_fl_7 D_fl_6)
theorem ok_fl_7 (D_fl_6 : AU X_fl_6 R_fl) (h_6 : AY J_fl S_fl_6 D_fl_6) : AY J_fl S_fl_7 (D_fl_7 D_fl_6) :=
 lk mxk (lbc h_6 rfl lbn) (sd_fl_7 D_fl_6)
def tt_fl_6 (D_fl_6 : AU X_fl_6 R_fl) (x : X_fl_6) : TT Tryz.prog R_fl :=
 (.ite (Bq x.SN 4)
 (.need (A6 x.SN x.Ue.n) <|
 (.ite (Bq (x.Ue.get (Int.toNat x.SN)) 0)
 (.ret false)
 (.need (A6 x.SN x.Ue.n) <|
 (.need (A6 x.SN (ByteArray.size x.Nn)) <|
 (.call con_f45 (bt x.Nn (Int.toNat x.SN)) fun (y2 : R_f45) =>
 (.ite (Bq y2 (IntKind.u64.wrap (x.Ue.get (Int.toNat x.SN))))
 (.ret false)
 (.AM S_fl_7 (D_fl_7 D_fl_6) (X_fl_7.mk x.Nn x.Ue x.SN))))))))
 (.ret true))
theorem sd_fl_6 (D_fl_6 : AU X_fl_6 R_fl) (x : X_fl_6) : (tt_fl_6 D_fl_6 x).AJ :=
 (TT.sI (TT.sN (TT.sI TT.sR (TT.sN (TT.sN (TT.sC fun _ => (TT.sI TT.sR TT.sJ)))))) TT.sR)
def D_fl_6 : AU X_fl_6 R_fl := AU.loop tt_fl_6
theorem ok_fl_6 : AY J_fl S_fl_6 D_fl_6 :=
 A8 fun D_fl_6 h_6 => lk mxk (lbc h_6 rfl (lbc (ok_fl_7 D_fl_6 h_6) rfl lbn)) (sd_fl_6 D_fl_6)
def tt_fl_4 (x : X_fl_4) : TT Tryz.prog R_fl :=
 (.AM S_fl_6 D_fl_6 (X_fl_6.mk x.Nn (Sl.mk false 4 (fun i1 => (cond (Nat.beq i1 0) x.GP.A (cond (Nat.beq i1 1) x.GP.B (cond (Nat.beq i1 2) x.GP.C x.GP.D))))) 0))
theorem sd_fl_4 (x : X_fl_4) : (tt_fl_4 x).AJ :=
 TT.sJ
def D_fl_4 : AU X_fl_4 R_fl := .of tt_fl_4
theorem ok_fl_4 : AY J_fl S_fl_4 D_fl_4 :=
 lk mxk (lbc ok_fl_6 rfl lbn) sd_fl_4
def tt_fl (x : X_fl) : TT Tryz.prog R_fl :=
 (.call con_f49 x.Op fun (y1 : R_f49) =>
 (.ite (seq y1 (ByteArray.mk #[]))
 (.ret false)
 (.need (A6 4 (ByteArray.size y1)) <|
 (.call con_f45 (bt y1 (Int.toNat 4)) fun (y2 : R_f45) =>
 (.ite (Bq y2 x.K)
 (.ret false)
 (.AM S_fl_4 D_fl_4 (X_fl_4.mk x y1)))))))
theorem sd_fl (x : X_fl) : (tt_fl x).AJ :=
 (TT.sC fun _ => (TT.sI TT.sR (TT.sN (TT.sC fun _ => (TT.sI TT.sR TT.sJ)))))
def D_fl : AU X_fl R_fl := .of tt_fl
def con_fl : BE Tryz.prog :=
 B2 147 J_fl S_fl D_fl 1 0 [.any] (lk mxk (lbc ok_fl_6 rfl (lbc ok_fl_4 rfl lbn)) sd_fl)
abbrev X_f26 : Type := TPg × TIn × Int
abbrev R_f26 : Type := Int
def J_f26 : BM Tryz.prog :=
 BS Tryz.prog Tryz.f148 56 [(3, 3), (4, 3)] [] [] [] [.any] [] [] R_f26 [] fun y => [(V.int .i64) y]
def S_f26 : AO :=
 Aj Tryz.f148 3 0 X_f26 (fun x => [e_TPg x.1, e_TIn x.2.1, (V.int .i64) x.2.2]) fun l => (d_TPg (at_ l 0), d_TIn (at_ l 1), dI (at_ l 2))
structure X_f26_3 where
 Fy : TPg
 EA : TIn
def S_f26_3 : AO :=
 Ad Tryz.f148 3 (an [3, 4]) [] [] X_f26_3 (fun x => [(Ch e_TPg) x.Fy, (Ch e_TIn) x.EA]) fun l => ⟨(Ci d_TPg) (at_ l 0), (Ci d_TIn) (at_ l 1)⟩
def tt_f26_3 (x : X_f26_3) : TT Tryz.prog R_f26 :=
 (.ite (Bw 18 x.EA.Op)
 (.ite (Bw x.EA.Op 20)
 (.ite (Bw ((x.Fy.AF.n : Nat) : Int) x.EA.C)
 (.ret 7)
 (.ite (AW x.EA.Op 19)
 (.need (A6 x.EA.C x.Fy.AF.n) <|
 (.ite (Bw (IntKind.u64.wrap (x.Fy.AF.get (Int.toNat x.EA.C)).AR) x.EA.K)
 (.ret 7)
 (.ret 0)))
 (.ret 0)))
 (.ite (AW x.EA.Op 19)
 (.need (A6 x.EA.C x.Fy.AF.n) <|
 (.ite (Bw (IntKind.u64.wrap (x.Fy.AF.get (Int.toNat x.EA.C)).AR) x.EA.K)
 (.ret 7)
 (.ret 0)))
 (.ret 0)))
 (.ite (AW x.EA.Op 19)
 (.need (A6 x.EA.C x.Fy.AF.n) <|
 (.ite (Bw (IntKind.u64.wrap (x.Fy.AF.get (Int.toNat x.EA.C)).AR) x.EA.K)
 (.ret 7)
 (.ret 0)))
 (.ret 0)))
theorem sd_f26_3 (x : X_f26_3) : (tt_f26_3 x).AJ :=
 (TT.sI (TT.sI (TT.sI TT.sR (TT.sI (TT.sN (TT.sI TT.sR TT.sR)) TT.sR)) (TT.sI (TT.sN (TT.sI TT.sR TT.sR)) TT.sR)) (TT.sI (TT.sN (TT.sI TT.sR TT.sR)) TT.sR))
def D_f26_3 : AU X_f26_3 R_f26 := .of tt_f26_3
theorem ok_f26_3 : AY J_f26 S_f26_3 D_f26_3 :=
 lk mxk lbn sd_f26_3
def tt_f26 (x : X_f26) : TT Tryz.prog R_f26 :=
 (.ite (Bw 15 x.snd.fst.Op)
 (.ite (Bw x.snd.fst.Op 17)
 (.ite (Bq (IntKind.u64.wrap x.snd.snd) x.snd.fst.K)
 (.ret 5)
 (.AM S_f26_3 D_f26_3 (X_f26_3.mk x.fst x.snd.fst)))
 (.AM S_f26_3 D_f26_3 (X_f26_3.mk x.fst x.snd.fst)))
 (.AM S_f26_3 D_f26_3 (X_f26_3.mk x.fst x.snd.fst)))
theorem sd_f26 (x : X_f26) : (tt_f26 x).AJ :=
 (TT.sI (TT.sI (TT.sI TT.sR TT.sJ) TT.sJ) TT.sJ)
def D_f26 : AU X_f26 R_f26 := .of tt_f26
def con_f26 : BE Tryz.prog :=
 B2 148 J_f26 S_f26 D_f26 3 0 [sh_TPg, .any, .any] (lk mxk (lbc ok_f26_3 rfl lbn) sd_f26)
abbrev X_f2 : Type := TPg
abbrev R_f2 : Type := Int × Int × Int
def J_f2 : BM Tryz.prog :=
 BS Tryz.prog Tryz.f97 81 [(1, 3)] [] [] [] [.any, .any, .any] [] [con_fl, con_f26, con_f48] R_f2 [] fun y => [V.Cb (V.cons ((V.int .i64) y.1) (V.cons ((V.int .i64) y.2.1) (V.cons ((V.int .i64) y.2.2) (V.unit))))]
def S_f2 : AO :=
 Aj Tryz.f97 1 0 X_f2 (fun x => [e_TPg x]) fun l => (d_TPg (at_ l 0))
structure X_f2_3 where
 DF : TPg
def S_f2_3 : AO :=
 Ad Tryz.f97 3 [(1, .any)] [] [] X_f2_3 (fun x => [(Ch e_TPg) x.DF]) fun l => ⟨(Ci d_TPg) (at_ l 0)⟩
structure X_f2_4 where
 DF : TPg
 D0 : Int
def S_f2_4 : AO :=
 Ad Tryz.f97 4 (an [1, 5]) [] [] X_f2_4 (fun x => [(Ch e_TPg) x.DF, (V.int .i64) x.D0]) fun l => ⟨(Ci d_TPg) (at_ l 0), dI (at_ l 1)⟩
structure X_f2_8 where
 DF : TPg
def S_f2_8 : AO :=
 Ad Tryz.f97 8 [(1, .any)] [] [] X_f2_8 (fun x => [(Ch e_TPg) x.DF]) fun l => ⟨(Ci d_TPg) (at_ l 0)⟩
structure X_f2_9 where
 DF : TPg
 L3 : Int
def S_f2_9 : AO :=
 Ad Tryz.f97 9 (an [1, 6]) [] [] X_f2_9 (fun x => [(Ch e_TPg) x.DF, (V.int .i64) x.L3]) fun l => ⟨(Ci d_TPg) (at_ l 0), dI (at_ l 1)⟩
structure X_f2_10 where
 DF : TPg
 L3 : Int
def S_f2_10 : AO :=
 Ad Tryz.f97 10 (an [1, 6]) [] [] X_f2_10 (fun x => [(Ch e_TPg) x.DF, (V.int .i64) x.L3]) fun l => ⟨(Ci d_TPg) (at_ l 0), dI (at_ l 1)⟩
structure X_f2_15 where
 DF : TPg
 L3 : Int
 P9 : (Sl TIn)
 QA : Int
def S_f2_15 : AO :=
 Ad Tryz.f97 15 [(1, .any), (6, .any), (7, hsl_TIn), (8, .any)] [] [] X_f2_15 (fun x => [(Ch e_TPg) x.DF, (V.int .i64) x.L3, esl_TIn x.P9, (V.int .i64) x.QA]) fun l => ⟨(Ci d_TPg) (at_ l 0), dI (at_ l 1), dsl_TIn (at_ l 2), dI (at_ l 3)⟩
structure X_f2_16 where
 DF : TPg
 L3 : Int
 P9 : (Sl TIn)
 QA : Int
def S_f2_16 : AO :=
 Ad Tryz.f97 16 [(1, .any), (6, .any), (7, hsl_TIn), (8, .any)] [] [] X_f2_16 (fun x => [(Ch e_TPg) x.DF, (V.int .i64) x.L3, esl_TIn x.P9, (V.int .i64) x.QA]) fun l => ⟨(Ci d_TPg) (at_ l 0), dI (at_ l 1), dsl_TIn (at_ l 2), dI (at_ l 3)⟩
structure X_f2_20 where
 DF : TPg
 L3 : Int
 P9 : (Sl TIn)
 QA : Int
 e_9 : Int
def S_f2_20 : AO :=
 Ad Tryz.f97 20 [(1, .any), (6, .any), (7, hsl_TIn), (8, .any), (9, .any)] [] [] X_f2_20 (fun x => [(Ch e_TPg) x.DF, (V.int .i64) x.L3, esl_TIn x.P9, (V.int .i64) x.QA, (V.int .i64) x.e_9]) fun l => ⟨(Ci d_TPg) (at_ l 0), dI (at_ l 1), dsl_TIn (at_ l 2), dI (at_ l 3), dI (at_ l 4)⟩
def tt_f2_10 (D_f2_9 : AU X_f2_9 R_f2) (x : X_f2_10) : TT Tryz.prog R_f2 :=
 (.AM S_f2_9 D_f2_9 (X_f2_9.mk x.DF (IntKind.i64.wrap (x.L3 + 1))))
theorem sd_f2_10 (D_f2_9 : AU X_f2_9 R_f2) (x : X_f2_10) : (tt_f2_10 D_f2_9 x).AJ :=
 TT.sJ
def D_f2_10 (D_f2_9 : AU X_f2_9 R_f2) : AU X_f2_10 R_f2 := .of (tt_f2_10 D_f2_9)
theorem ok_f2_10 (D_f2_9 : AU X_f2_9 R_f2) (h_9 : AY J_f2 S_f2_9 D_f2_9) : AY J_f2 S_f2_10 (D_f2_10 D_f2_9) :=
 lk mxk (lbc h_9 rfl lbn) (sd_f2_10 D_f2_9)
def tt_f2_16 (_D_f2_9 : AU X_f2_9 R_f2) (D_f2_15 : AU X_f2_15 R_f2) (x : X_f2_16) : TT Tryz.prog R_f2 :=
 (.AM S_f2_15 D_f2_15 (X_f2_15.mk x.DF x.L3 x.P9 (IntKind.i64.wrap (x.QA + 1))))
theorem sd_f2_16 (D_f2_9 : AU X_f2_9 R_f2) (D_f2_15 : AU X_f2_15 R_f2) (x : X_f2_16) : (tt_f2_16 D_f2_9 D_f2_15 x).AJ :=
 TT.sJ
def D_f2_16 (D_f2_9 : AU X_f2_9 R_f2) (D_f2_15 : AU X_f2_15 R_f2) : AU X_f2_16 R_f2 := .of (tt_f2_16 D_f2_9 D_f2_15)
theorem ok_f2_16 (D_f2_9 : AU X_f2_9 R_f2) (D_f2_15 : AU X_f2_15 R_f2) (h_9 : AY J_f2 S_f2_9 D_f2_9) (h_15 : AY J_f2 S_f2_15 D_f2_15) : AY J_f2 S_f2_16 (D_f2_16 D_f2_9 D_f2_15) :=
 lk mxk (lbc h_9 rfl (lbc h_15 rfl (lbc (ok_f2_10 D_f2_9 h_9) rfl lbn))) (sd_f2_16 D_f2_9 D_f2_15)
def tt_f2_20 (D_f2_9 : AU X_f2_9 R_f2) (D_f2_15 : AU X_f2_15 R_f2) (x : X_f2_20) : TT Tryz.prog R_f2 :=
 (.ite (!(AW x.e_9 0))
 (.ret (x.L3, (x.QA, x.e_9)))
 (.AM S_f2_16 (D_f2_16 D_f2_9 D_f2_15) (X_f2_16.mk x.DF x.L3 x.P9 x.QA)))
theorem sd_f2_20 (D_f2_9 : AU X_f2_9 R_f2) (D_f2_15 : AU X_f2_15 R_f2) (x : X_f2_20) : (tt_f2_20 D_f2_9 D_f2_15 x).AJ :=
 (TT.sI TT.sR TT.sJ)
def D_f2_20 (D_f2_9 : AU X_f2_9 R_f2) (D_f2_15 : AU X_f2_15 R_f2) : AU X_f2_20 R_f2 := .of (tt_f2_20 D_f2_9 D_f2_15)
theorem ok_f2_20 (D_f2_9 : AU X_f2_9 R_f2) (D_f2_15 : AU X_f2_15 R_f2) (h_9 : AY J_f2 S_f2_9 D_f2_9) (h_15 : AY J_f2 S_f2_15 D_f2_15) : AY J_f2 S_f2_20 (D_f2_20 D_f2_9 D_f2_15) :=
 lk mxk (lbc h_9 rfl (lbc h_15 rfl (lbc (ok_f2_10 D_f2_9 h_9) rfl (lbc (ok_f2_16 D_f2_9 D_f2_15 h_9 h_15) rfl lbn)))) (sd_f2_20 D_f2_9 D_f2_15)
def tt_f2_15 (D_f2_9 : AU X_f2_9 R_f2) (D_f2_15 : AU X_f2_15 R_f2) (x : X_f2_15) : TT Tryz.prog R_f2 :=
 (.ite (Bq x.QA ((x.P9.n : Nat) : Int))
 (.need (A6 x.QA x.P9.n) <|
 (.call con_fl (x.P9.get (Int.toNat x.QA)) fun (y3 : R_fl) =>
 (.ite y3
 (.need (A6 x.QA x.P9.n) <|
 (.call con_f26 (x.DF, ((x.P9.get (Int.toNat x.QA)), ((x.P9.n : Nat) : Int))) fun (y4 : R_f26) =>
 (.AM S_f2_20 (D_f2_20 D_f2_9 D_f2_15) (X_f2_20.mk x.DF x.L3 x.P9 x.QA y4))))
 (.AM S_f2_20 (D_f2_20 D_f2_9 D_f2_15) (X_f2_20.mk x.DF x.L3 x.P9 x.QA 6)))))
 (.AM S_f2_10 (D_f2_10 D_f2_9) (X_f2_10.mk x.DF x.L3)))
theorem sd_f2_15 (D_f2_9 : AU X_f2_9 R_f2) (D_f2_15 : AU X_f2_15 R_f2) (x : X_f2_15) : (tt_f2_15 D_f2_9 D_f2_15 x).AJ :=
 (TT.sI (TT.sN (TT.sC fun _ => (TT.sI (TT.sN (TT.sC fun _ => TT.sJ)) TT.sJ))) TT.sJ)
def D_f2_15 (D_f2_9 : AU X_f2_9 R_f2) : AU X_f2_15 R_f2 := AU.loop (tt_f2_15 D_f2_9)
theorem ok_f2_15 (D_f2_9 : AU X_f2_9 R_f2) (h_9 : AY J_f2 S_f2_9 D_f2_9) : AY J_f2 S_f2_15 (D_f2_15 D_f2_9) :=
 A8 fun D_f2_15 h_15 => lk mxk (lbc h_9 rfl (lbc h_15 rfl (lbc (ok_f2_10 D_f2_9 h_9) rfl (lbc (ok_f2_16 D_f2_9 D_f2_15 h_9 h_15) rfl (lbc (ok_f2_20 D_f2_9 D_f2_15 h_9 h_15) rfl lbn))))) (sd_f2_15 D_f2_9 D_f2_15)
def tt_f2_9 (D_f2_9 : AU X_f2_9 R_f2) (x : X_f2_9) : TT Tryz.prog R_f2 :=
 (.ite (Bq x.L3 ((x.DF.AB.n : Nat) : Int))
 (.need (A6 x.L3 x.DF.AB.n) <|
 (.ite (Bq 256 (((x.DF.AB.get (Int.toNat x.L3)).n : Nat) : Int))
 (.ret (x.L3, (256, 4)))
 (.AM S_f2_15 (D_f2_15 D_f2_9) (X_f2_15.mk x.DF x.L3 (x.DF.AB.get (Int.toNat x.L3)) 0))))
 (.ret (0, (0, 0))))
theorem sd_f2_9 (D_f2_9 : AU X_f2_9 R_f2) (x : X_f2_9) : (tt_f2_9 D_f2_9 x).AJ :=
 (TT.sI (TT.sN (TT.sI TT.sR TT.sJ)) TT.sR)
def D_f2_9 : AU X_f2_9 R_f2 := AU.loop tt_f2_9
theorem ok_f2_9 : AY J_f2 S_f2_9 D_f2_9 :=
 A8 fun D_f2_9 h_9 => lk mxk (lbc h_9 rfl (lbc (ok_f2_10 D_f2_9 h_9) rfl (lbc (ok_f2_15 D_f2_9 h_9) rfl lbn))) (sd_f2_9 D_f2_9)
def tt_f2_8 (x : X_f2_8) : TT Tryz.prog R_f2 :=
 (.AM S_f2_9 D_f2_9 (X_f2_9.mk x.DF 0))
theorem sd_f2_8 (x : X_f2_8) : (tt_f2_8 x).AJ :=
 TT.sJ
def D_f2_8 : AU X_f2_8 R_f2 := .of tt_f2_8
theorem ok_f2_8 : AY J_f2 S_f2_8 D_f2_8 :=
 lk mxk (lbc ok_f2_9 rfl lbn) sd_f2_8
def tt_f2_4 (D_f2_4 : AU X_f2_4 R_f2) (x : X_f2_4) : TT Tryz.prog R_f2 :=
 (.ite (Bq x.D0 ((x.DF.AF.n : Nat) : Int))
 (.need (A6 x.D0 x.DF.AF.n) <|
 (.call con_f48 (x.DF.AF.get (Int.toNat x.D0)) fun (y2 : R_f48) =>
 (.ite (!y2)
 (.ret ((-(1 : Int)), (x.D0, 7)))
 (.AM S_f2_4 D_f2_4 (X_f2_4.mk x.DF (IntKind.i64.wrap (x.D0 + 1)))))))
 (.AM S_f2_8 D_f2_8 (X_f2_8.mk x.DF)))
theorem sd_f2_4 (D_f2_4 : AU X_f2_4 R_f2) (x : X_f2_4) : (tt_f2_4 D_f2_4 x).AJ :=
 (TT.sI (TT.sN (TT.sC fun _ => (TT.sI TT.sR TT.sJ))) TT.sJ)
def D_f2_4 : AU X_f2_4 R_f2 := AU.loop tt_f2_4
theorem ok_f2_4 : AY J_f2 S_f2_4 D_f2_4 :=
 A8 fun D_f2_4 h_4 => lk mxk (lbc h_4 rfl (lbc ok_f2_9 rfl (lbc ok_f2_8 rfl lbn))) (sd_f2_4 D_f2_4)
def tt_f2_3 (x : X_f2_3) : TT Tryz.prog R_f2 :=
 (.AM S_f2_4 D_f2_4 (X_f2_4.mk x.DF 0))
theorem sd_f2_3 (x : X_f2_3) : (tt_f2_3 x).AJ :=
 TT.sJ
def D_f2_3 : AU X_f2_3 R_f2 := .of tt_f2_3
theorem ok_f2_3 : AY J_f2 S_f2_3 D_f2_3 :=
 lk mxk (lbc ok_f2_9 rfl (lbc ok_f2_8 rfl (lbc ok_f2_4 rfl lbn))) sd_f2_3
def tt_f2 (x : X_f2) : TT Tryz.prog R_f2 :=
 (.ite (AW ((x.AB.n : Nat) : Int) 0)
 (.ret (0, (0, 1)))
 (.ite (Bq 8 ((x.AB.n : Nat) : Int))
 (.ret (0, (0, 1)))
 (.ite (Bq 8 ((x.AF.n : Nat) : Int))
 (.ret (0, (0, 1)))
 (.AM S_f2_3 D_f2_3 (X_f2_3.mk x)))))
theorem sd_f2 (x : X_f2) : (tt_f2 x).AJ :=
 (TT.sI TT.sR (TT.sI TT.sR (TT.sI TT.sR TT.sJ)))
def D_f2 : AU X_f2 R_f2 := .of tt_f2
def con_f2 : BE Tryz.prog :=
 B2 97 J_f2 S_f2 D_f2 1 0 [sh_TPg] (lk mxk (lbc ok_f2_9 rfl (lbc ok_f2_8 rfl (lbc ok_f2_4 rfl (lbc ok_f2_3 rfl lbn)))) sd_f2)
abbrev X_f43 : Type := TPg
abbrev R_f43 : Type := Bool
def J_f43 : BM Tryz.prog :=
 BS Tryz.prog Tryz.f55 14 [(1, 3), (6, 1)] [] [] [] [.any] [] [con_f2] R_f43 [] fun y => [V.bool y]
def S_f43 : AO :=
 Aj Tryz.f55 1 0 X_f43 (fun x => [e_TPg x]) fun l => (d_TPg (at_ l 0))
def tt_f43 (x : X_f43) : TT Tryz.prog R_f43 :=
 (.call con_f2 x fun (y1 : R_f2) =>
 (.ret (AW y1.snd.snd 0)))
theorem sd_f43 (x : X_f43) : (tt_f43 x).AJ :=
 (TT.sC fun _ => TT.sR)
def D_f43 : AU X_f43 R_f43 := .of tt_f43
def con_f43 : BE Tryz.prog :=
 B2 55 J_f43 S_f43 D_f43 1 0 [sh_TPg] (lk mxk lbn sd_f43)
abbrev X_f44 : Type := TPg
abbrev R_f44 : Type := Bool
def J_f44 : BM Tryz.prog :=
 BS Tryz.prog Tryz.f24 5 [(1, 3)] [] [] [] [.any] [] [con_f43] R_f44 [] fun y => [V.bool y]
def S_f44 : AO :=
 Aj Tryz.f24 1 0 X_f44 (fun x => [e_TPg x]) fun l => (d_TPg (at_ l 0))
def tt_f44 (x : X_f44) : TT Tryz.prog R_f44 :=
 (.call con_f43 x fun (y1 : R_f43) =>
 (.ret y1))
theorem sd_f44 (x : X_f44) : (tt_f44 x).AJ :=
 (TT.sC fun _ => TT.sR)
def D_f44 : AU X_f44 R_f44 := .of tt_f44
def con_f44 : BE Tryz.prog :=
 B2 24 J_f44 S_f44 D_f44 1 0 [sh_TPg] (lk mxk lbn sd_f44)
abbrev X_f4k : Type := TPg
abbrev R_f4k : Type := Bool
def J_f4k : BM Tryz.prog :=
 BS Tryz.prog Tryz.f12 9 [(1, 3)] [] [] [] [.any] [] [con_f1r, con_f44] R_f4k [] fun y => [V.bool y]
def S_f4k : AO :=
 Aj Tryz.f12 1 0 X_f4k (fun x => [e_TPg x]) fun l => (d_TPg (at_ l 0))
def tt_f4k (x : X_f4k) : TT Tryz.prog R_f4k :=
 (.call con_f1r (x, 100) fun (y1 : R_f1r) =>
 (.ite y1
 (.call con_f44 x fun (y2 : R_f44) =>
 (.ret y2))
 (.ret false)))
theorem sd_f4k (x : X_f4k) : (tt_f4k x).AJ :=
 (TT.sC fun _ => (TT.sI (TT.sC fun _ => TT.sR) TT.sR))
def D_f4k : AU X_f4k R_f4k := .of tt_f4k
def con_f4k : BE Tryz.prog :=
 B2 12 J_f4k S_f4k D_f4k 1 0 [sh_TPg] (lk mxk lbn sd_f4k)
structure TR2 where
 L : (Sl TSo)
 AR : Int
def d_TR2 (v : V) : TR2 :=
 ⟨dsl_TSo (fd v 0), dI (fd v 1)⟩
def e_TR2 (x : TR2) : V :=
 V.cons (esl_TSo x.L) (V.cons ((V.int .i64) x.AR) (V.unit))
theorem nu_e_TR2 (x : TR2) : (e_TR2 x).Cl := ⟨trivial, trivial, trivial⟩
def sh_TR2 : Sh := (.cons hsl_TSo .any)
abbrev DslA_TSo : Type := (Sl TSo)
def eslA_TSo : DslA_TSo → V := (MX (some 175) 3 e_TSo)
def dslA_TSo : V → DslA_TSo := (L9 d_TSo)
def hslA_TSo : Sh := (.sl (some 175) 3 (e_TSo (d_TSo .undef)))
def e_TR2_0 (x : TR2) : V :=
 V.cons (eslA_TSo x.L) (V.cons ((V.int .i64) x.AR) (V.unit))
theorem nu_e_TR2_0 (x : TR2) : (e_TR2_0 x).Cl := ⟨trivial, trivial, trivial⟩
def sh_TR2_0 : Sh := (.cons hslA_TSo .any)
abbrev X_f2l : Type := Int × Int
abbrev R_f2l : Type := TR2
def J_f2l : BM Tryz.prog :=
 BS Tryz.prog Tryz.f76 24 [(15, 1)] [] [] [] [sh_TR2] [] [] R_f2l [] fun y => [e_TR2 y]
def S_f2l : AO :=
 Aj Tryz.f76 2 0 X_f2l (fun x => [(V.int .i64) x.1, (V.int .i64) x.2]) fun l => (dI (at_ l 0), dI (at_ l 1))
structure X_f2l_3 where
 FJ : Int
 Kj : Int
 Cc : TR2
 BI : TR2
def S_f2l_3 : AO :=
 Ad Tryz.f76 3 (an [0, 4, 5, 6]) [] [(.loc 4 0, sh_TR2), (.loc 5 0, sh_TR2_0)] X_f2l_3 (fun x => [(V.int .i64) x.FJ, (V.ptr (.loc 4 0) []), (V.ptr (.loc 5 0) []), (V.int .i64) x.Kj, e_TR2 x.Cc, e_TR2_0 x.BI]) fun l => ⟨dI (at_ l 0), dI (at_ l 3), d_TR2 (at_ l 4), d_TR2 (at_ l 5)⟩
def tt_f2l_3 (D_f2l_3 : AU X_f2l_3 R_f2l) (x : X_f2l_3) : TT Tryz.prog R_f2l :=
 (.ite (Bq x.Kj x.FJ)
 (.need (true && (room (x.BI.L.n + 1) 24)) <|
 (.AM S_f2l_3 D_f2l_3 (X_f2l_3.mk x.FJ (IntKind.i64.wrap (x.Kj + 1)) x.Cc (TR2.mk (Sl.mk (cond (Nat.beq 1 0) x.BI.L.nil false) (x.BI.L.n + 1) (fun i2 => (TSo.mk (cond (Nat.blt i2 x.BI.L.n) (x.BI.L.get i2).AP (IntKind.u64.wrap ((2 : Int) * (IntKind.u64.wrap x.Kj)))) (cond (Nat.blt i2 x.BI.L.n) (x.BI.L.get i2).Value (0 : Int)) (cond (Nat.blt i2 x.BI.L.n) (x.BI.L.get i2).Left (0 : Int))))) x.BI.AR))))
 (.ret x.BI))
theorem sd_f2l_3 (D_f2l_3 : AU X_f2l_3 R_f2l) (x : X_f2l_3) : (tt_f2l_3 D_f2l_3 x).AJ :=
 (TT.sI (TT.sN TT.sJ) TT.sR)
def D_f2l_3 : AU X_f2l_3 R_f2l := AU.loop tt_f2l_3
theorem ok_f2l_3 : AY J_f2l S_f2l_3 D_f2l_3 :=
 A8 fun D_f2l_3 h_3 => lk mxk (lbc h_3 rfl lbn) (sd_f2l_3 D_f2l_3)
def tt_f2l (x : X_f2l) : TT Tryz.prog R_f2l :=
 (.AM S_f2l_3 D_f2l_3 (X_f2l_3.mk x.fst 0 (TR2.mk (Sl.mk true 0 (fun _i1 => (TSo.mk 0 0 0))) 0) (TR2.mk (Sl.mk true 0 (fun _i1 => (TSo.mk 0 0 0))) x.snd)))
theorem sd_f2l (x : X_f2l) : (tt_f2l x).AJ :=
 TT.sJ
def D_f2l : AU X_f2l R_f2l := .of tt_f2l
def con_f2l : BE Tryz.prog :=
 B2 76 J_f2l S_f2l D_f2l 2 0 [.any, .any] (lk mxk (lbc ok_f2l_3 rfl lbn) sd_f2l)
structure TR3 where
 DP : Int
 A0 : Int
 AV : (Sl Int)
 As : Bool
 S : TR2
def d_TR3 (v : V) : TR3 :=
 ⟨dI (fd v 0), dI (fd v 1), Bc (fd v 2), dB (fd v 3), d_TR2 (fd v 4)⟩
def e_TR3 (x : TR3) : V :=
 V.cons ((V.int .u64) x.DP) (V.cons ((V.int .u64) x.A0) (V.cons (BG x.AV) (V.cons (V.bool x.As) (V.cons (e_TR2 x.S) (V.unit)))))
theorem nu_e_TR3 (x : TR3) : (e_TR3 x).Cl := ⟨trivial, trivial, trivial, trivial, (nu_e_TR2 : ∀ y, (e_TR2 y).Cl) x.S, trivial⟩
def sh_TR3 : Sh := (.cons .any (.cons .any (.cons BP (.cons .any (.cons sh_TR2 .any)))))
abbrev X_f4b : Type := TRg
abbrev R_f4b : Type := TR3
def J_f4b : BM Tryz.prog :=
 BS Tryz.prog Tryz.f41 15 [(1, 3), (8, 2)] [] [] [] [sh_TR3] [] [con_f2l] R_f4b [] fun y => [e_TR3 y]
def S_f4b : AO :=
 Aj Tryz.f41 1 0 X_f4b (fun x => [e_TRg x]) fun l => (d_TRg (at_ l 0))
def tt_f4b (x : X_f4b) : TT Tryz.prog R_f4b :=
 (.need ((((upto x.AR (Int.toNat x.AR)) && (Bw 0 x.AR)) && (room (Int.toNat x.AR) 8)) && (decide ((x.AR ≤ (9223372036854775807 : Int))))) <|
 (.call con_f2l (x.DP, x.AR) fun (y1 : R_f2l) =>
 (.ret (TR3.mk (IntKind.u64.wrap x.DP) 0 (Sl.mk false (Int.toNat x.AR) (fun _i2 => (0 : Int))) false y1))))
theorem sd_f4b (x : X_f4b) : (tt_f4b x).AJ :=
 (TT.sN (TT.sC fun _ => TT.sR))
def D_f4b : AU X_f4b R_f4b := .of tt_f4b
def con_f4b : BE Tryz.prog :=
 B2 41 J_f4b S_f4b D_f4b 1 0 [.any] (lk mxk lbn sd_f4b)
abbrev X_f3o : Type := TR3
abbrev R_f3o : Type := TRs
def J_f3o : BM Tryz.prog :=
 BS Tryz.prog Tryz.f40 17 [(1, 3)] [] [] [] [sh_TRs] [] [] R_f3o [] fun y => [e_TRs y]
def S_f3o : AO :=
 Aj Tryz.f40 1 0 X_f3o (fun x => [e_TR3 x]) fun l => (d_TR3 (at_ l 0))
def tt_f3o (x : X_f3o) : TT Tryz.prog R_f3o :=
 (.need (true && (room ((0 : Nat) + x.AV.n) 8)) <|
 (.need (true && (room ((0 : Nat) + x.S.L.n) 24)) <|
 (.ret (TRs.mk x.A0 (Sl.mk (cond (Nat.beq x.AV.n 0) false false) ((0 : Nat) + x.AV.n) (fun i1 => (cond (Nat.blt i1 0) (0 : Int) (x.AV.get (i1 - 0))))) x.As (Sl.mk (cond (Nat.beq x.S.L.n 0) false false) ((0 : Nat) + x.S.L.n) (fun i1 => (TSo.mk (cond (Nat.blt i1 0) (0 : Int) (x.S.L.get (i1 - 0)).AP) (cond (Nat.blt i1 0) (0 : Int) (x.S.L.get (i1 - 0)).Value) (cond (Nat.blt i1 0) (0 : Int) (x.S.L.get (i1 - 0)).Left))))))))
theorem sd_f3o (x : X_f3o) : (tt_f3o x).AJ :=
 (TT.sN (TT.sN TT.sR))
def D_f3o : AU X_f3o R_f3o := .of tt_f3o
def con_f3o : BE Tryz.prog :=
 B2 40 J_f3o S_f3o D_f3o 1 0 [sh_TR3] (lk mxk lbn sd_f3o)
abbrev X_f2m : Type := TPg
abbrev R_f2m : Type := TSt
def J_f2m : BM Tryz.prog :=
 BS Tryz.prog Tryz.f14 30 [(1, 3), (8, 2), (18, 1)] [] [] [] [sh_TSt] [] [con_f4b, con_f3o] R_f2m [] fun y => [e_TSt y]
def S_f2m : AO :=
 Aj Tryz.f14 1 0 X_f2m (fun x => [e_TPg x]) fun l => (d_TPg (at_ l 0))
structure X_f2m_3 where
 DF : TPg
 EA : Int
 Bv : TSt
 BC : TSt
def S_f2m_3 : AO :=
 Ad Tryz.f14 3 (an [1, 2, 3, 4]) [] [(.loc 2 0, sh_TSt), (.loc 3 0, sh_TSt_1)] X_f2m_3 (fun x => [(Ch e_TPg) x.DF, (V.ptr (.loc 2 0) []), (V.ptr (.loc 3 0) []), (V.int .i64) x.EA, e_TSt x.Bv, e_TSt_1 x.BC]) fun l => ⟨(Ci d_TPg) (at_ l 0), dI (at_ l 3), d_TSt (at_ l 4), d_TSt (at_ l 5)⟩
def tt_f2m_3 (D_f2m_3 : AU X_f2m_3 R_f2m) (x : X_f2m_3) : TT Tryz.prog R_f2m :=
 (.ite (Bq x.EA ((x.DF.AF.n : Nat) : Int))
 (.need (A6 x.EA x.DF.AF.n) <|
 (.call con_f4b (x.DF.AF.get (Int.toNat x.EA)) fun (y2 : R_f4b) =>
 (.call con_f3o y2 fun (y3 : R_f3o) =>
 (.need (true && (room (x.BC.AF.n + 1) 64)) <|
 (.AM S_f2m_3 D_f2m_3 (X_f2m_3.mk x.DF (IntKind.i64.wrap (x.EA + 1)) x.Bv (TSt.mk x.BC.AB (Sl.mk (cond (Nat.beq 1 0) x.BC.AF.nil false) (x.BC.AF.n + 1) (fun i4 => (TRs.mk (cond (Nat.blt i4 x.BC.AF.n) (x.BC.AF.get i4).A0 y3.A0) (Sl.mk (cond (Nat.blt i4 x.BC.AF.n) (x.BC.AF.get i4).AV.nil y3.AV.nil) (cond (Nat.blt i4 x.BC.AF.n) (x.BC.AF.get i4).AV.n y3.AV.n) (fun i5 => (cond (Nat.blt i4 x.BC.AF.n) ((x.BC.AF.get i4).AV.get i5) (y3.AV.get i5)))) (cond (Nat.blt i4 x.BC.AF.n) (x.BC.AF.get i4).As y3.As) (Sl.mk (cond (Nat.blt i4 x.BC.AF.n) (x.BC.AF.get i4).Al.nil y3.Al.nil) (cond (Nat.blt i4 x.BC.AF.n) (x.BC.AF.get i4).Al.n y3.Al.n) (fun i5 => (TSo.mk (cond (Nat.blt i4 x.BC.AF.n) ((x.BC.AF.get i4).Al.get i5).AP (y3.Al.get i5).AP) (cond (Nat.blt i4 x.BC.AF.n) ((x.BC.AF.get i4).Al.get i5).Value (y3.Al.get i5).Value) (cond (Nat.blt i4 x.BC.AF.n) ((x.BC.AF.get i4).Al.get i5).Left (y3.Al.get i5).Left))))))) x.BC.Ec x.BC.Reads x.BC.BO)))))))
 (.ret x.BC))
theorem sd_f2m_3 (D_f2m_3 : AU X_f2m_3 R_f2m) (x : X_f2m_3) : (tt_f2m_3 D_f2m_3 x).AJ :=
 (TT.sI (TT.sN (TT.sC fun _ => (TT.sC fun _ => (TT.sN TT.sJ)))) TT.sR)
def D_f2m_3 : AU X_f2m_3 R_f2m := AU.loop tt_f2m_3
theorem ok_f2m_3 : AY J_f2m S_f2m_3 D_f2m_3 :=
 A8 fun D_f2m_3 h_3 => lk mxk (lbc h_3 rfl lbn) (sd_f2m_3 D_f2m_3)
def tt_f2m (x : X_f2m) : TT Tryz.prog R_f2m :=
 (.need ((((upto ((x.AB.n : Nat) : Int) (Int.toNat ((x.AB.n : Nat) : Int))) && (Bw 0 ((x.AB.n : Nat) : Int))) && (room (Int.toNat ((x.AB.n : Nat) : Int)) 128)) && (decide ((((x.AB.n : Nat) : Int) ≤ (9223372036854775807 : Int))))) <|
 (.AM S_f2m_3 D_f2m_3 (X_f2m_3.mk x 0 (TSt.mk (Sl.mk true 0 (fun _i1 => (TTh.mk 0 0 0 0 0 (fun _i2 => (0 : Int)) (Sl.mk true 0 (fun _i2 => (0 : Int)))))) (Sl.mk true 0 (fun _i1 => (TRs.mk 0 (Sl.mk true 0 (fun _i2 => (0 : Int))) false (Sl.mk true 0 (fun _i2 => (TSo.mk 0 0 0)))))) 0 0 false) (TSt.mk (Sl.mk false (Int.toNat ((x.AB.n : Nat) : Int)) (fun _i1 => (TTh.mk 0 0 0 0 0 (fun _i2 => (0 : Int)) (Sl.mk true 0 (fun _i2 => (0 : Int)))))) (Sl.mk true 0 (fun _i1 => (TRs.mk 0 (Sl.mk true 0 (fun _i2 => (0 : Int))) false (Sl.mk true 0 (fun _i2 => (TSo.mk 0 0 0)))))) 0 0 false))))
theorem sd_f2m (x : X_f2m) : (tt_f2m x).AJ :=
 (TT.sN TT.sJ)
def D_f2m : AU X_f2m R_f2m := .of tt_f2m
def con_f2m : BE Tryz.prog :=
 B2 14 J_f2m S_f2m D_f2m 1 0 [sh_TPg] (lk mxk (lbc ok_f2m_3 rfl lbn) sd_f2m)
abbrev X_fa : Type := Int × Int × Int
abbrev R_fa : Type := Int
def J_fa : BM Tryz.prog :=
 BS Tryz.prog Tryz.f199 58 [] [] [] [] [.any] [] [] R_fa [] fun y => [(V.int .u64) y]
def S_fa : AO :=
 Aj Tryz.f199 3 0 X_fa (fun x => [(V.int .i64) x.1, (V.int .u64) x.2.1, (V.int .u64) x.2.2]) fun l => (dI (at_ l 0), dI (at_ l 1), dI (at_ l 2))
structure X_fa_3 where
 EB : Int
 GO : Int
 HM : Int
 Dm : Int
 B5 : Int
 Ht : Int
def S_fa_3 : AO :=
 Ad Tryz.f199 3 (an [0, 1, 2, 7, 8, 9]) [] [] X_fa_3 (fun x => [(V.int .i64) x.EB, (V.int .u64) x.GO, (V.int .u64) x.HM, (V.int .u64) x.Dm, (V.int .u64) x.B5, (V.int .i64) x.Ht]) fun l => ⟨dI (at_ l 0), dI (at_ l 1), dI (at_ l 2), dI (at_ l 3), dI (at_ l 4), dI (at_ l 5)⟩
structure X_fa_4 where
 EB : Int
 GO : Int
 HM : Int
 Dm : Int
 B5 : Int
 Ht : Int
def S_fa_4 : AO :=
 Ad Tryz.f199 4 (an [0, 1, 2, 7, 8, 9]) [] [] X_fa_4 (fun x => [(V.int .i64) x.EB, (V.int .u64) x.GO, (V.int .u64) x.HM, (V.int .u64) x.Dm, (V.int .u64) x.B5, (V.int .i64) x.Ht]) fun l => ⟨dI (at_ l 0), dI (at_ l 1), dI (at_ l 2), dI (at_ l 3), dI (at_ l 4), dI (at_ l 5)⟩
structure X_fa_8 where
 EB : Int
 GO : Int
 HM : Int
 Dm : Int
 B5 : Int
 Ht : Int
def S_fa_8 : AO :=
 Ad Tryz.f199 8 (an [0, 1, 2, 7, 8, 9]) [] [] X_fa_8 (fun x => [(V.int .i64) x.EB, (V.int .u64) x.GO, (V.int .u64) x.HM, (V.int .u64) x.Dm, (V.int .u64) x.B5, (V.int .i64) x.Ht]) fun l => ⟨dI (at_ l 0), dI (at_ l 1), dI (at_ l 2), dI (at_ l 3), dI (at_ l 4), dI (at_ l 5)⟩
def tt_fa_4 (D_fa_3 : AU X_fa_3 R_fa) (x : X_fa_4) : TT Tryz.prog R_fa :=
 (.AM S_fa_3 D_fa_3 (X_fa_3.mk x.EB x.GO x.HM x.Dm x.B5 (IntKind.i64.wrap (x.Ht + 1))))
theorem sd_fa_4 (D_fa_3 : AU X_fa_3 R_fa) (x : X_fa_4) : (tt_fa_4 D_fa_3 x).AJ :=
 TT.sJ
def D_fa_4 (D_fa_3 : AU X_fa_3 R_fa) : AU X_fa_4 R_fa := .of (tt_fa_4 D_fa_3)
theorem ok_fa_4 (D_fa_3 : AU X_fa_3 R_fa) (h_3 : AY J_fa S_fa_3 D_fa_3) : AY J_fa S_fa_4 (D_fa_4 D_fa_3) :=
 lk mxk (lbc h_3 rfl lbn) (sd_fa_4 D_fa_3)
def tt_fa_8 (D_fa_3 : AU X_fa_3 R_fa) (x : X_fa_8) : TT Tryz.prog R_fa :=
 (.AM S_fa_4 (D_fa_4 D_fa_3) (X_fa_4.mk x.EB (IntKind.u64.wrap (Int.tdiv x.GO 2)) (IntKind.u64.wrap (Int.tdiv x.HM 2)) x.Dm (IntKind.u64.wrap (x.B5 * 2)) x.Ht))
theorem sd_fa_8 (D_fa_3 : AU X_fa_3 R_fa) (x : X_fa_8) : (tt_fa_8 D_fa_3 x).AJ :=
 TT.sJ
def D_fa_8 (D_fa_3 : AU X_fa_3 R_fa) : AU X_fa_8 R_fa := .of (tt_fa_8 D_fa_3)
theorem ok_fa_8 (D_fa_3 : AU X_fa_3 R_fa) (h_3 : AY J_fa S_fa_3 D_fa_3) : AY J_fa S_fa_8 (D_fa_8 D_fa_3) :=
 lk mxk (lbc h_3 rfl (lbc (ok_fa_4 D_fa_3 h_3) rfl lbn)) (sd_fa_8 D_fa_3)
def tt_fa_3 (D_fa_3 : AU X_fa_3 R_fa) (x : X_fa_3) : TT Tryz.prog R_fa :=
 (.ite (Bq x.Ht 64)
 (.ite (AW x.EB 8)
 (.ite (AW (IntKind.u64.wrap ((Int.tmod x.GO 2) + (Int.tmod x.HM 2))) 2)
 (.AM S_fa_8 (D_fa_8 D_fa_3) (X_fa_8.mk x.EB x.GO x.HM (IntKind.u64.wrap (x.Dm + x.B5)) x.B5 x.Ht))
 (.ite (AW x.EB 9)
 (.ite (Bq 0 (IntKind.u64.wrap ((Int.tmod x.GO 2) + (Int.tmod x.HM 2))))
 (.AM S_fa_8 (D_fa_8 D_fa_3) (X_fa_8.mk x.EB x.GO x.HM (IntKind.u64.wrap (x.Dm + x.B5)) x.B5 x.Ht))
 (.ite (AW x.EB 10)
 (.ite (AW (IntKind.u64.wrap ((Int.tmod x.GO 2) + (Int.tmod x.HM 2))) 1)
 (.AM S_fa_8 (D_fa_8 D_fa_3) (X_fa_8.mk x.EB x.GO x.HM (IntKind.u64.wrap (x.Dm + x.B5)) x.B5 x.Ht))
 (.AM S_fa_8 (D_fa_8 D_fa_3) (X_fa_8.mk x.EB x.GO x.HM x.Dm x.B5 x.Ht)))
 (.AM S_fa_8 (D_fa_8 D_fa_3) (X_fa_8.mk x.EB x.GO x.HM x.Dm x.B5 x.Ht))))
 (.ite (AW x.EB 10)
 (.ite (AW (IntKind.u64.wrap ((Int.tmod x.GO 2) + (Int.tmod x.HM 2))) 1)
 (.AM S_fa_8 (D_fa_8 D_fa_3) (X_fa_8.mk x.EB x.GO x.HM (IntKind.u64.wrap (x.Dm + x.B5)) x.B5 x.Ht))
 (.AM S_fa_8 (D_fa_8 D_fa_3) (X_fa_8.mk x.EB x.GO x.HM x.Dm x.B5 x.Ht)))
 (.AM S_fa_8 (D_fa_8 D_fa_3) (X_fa_8.mk x.EB x.GO x.HM x.Dm x.B5 x.Ht)))))
 (.ite (AW x.EB 9)
 (.ite (Bq 0 (IntKind.u64.wrap ((Int.tmod x.GO 2) + (Int.tmod x.HM 2))))
 (.AM S_fa_8 (D_fa_8 D_fa_3) (X_fa_8.mk x.EB x.GO x.HM (IntKind.u64.wrap (x.Dm + x.B5)) x.B5 x.Ht))
 (.ite (AW x.EB 10)
 (.ite (AW (IntKind.u64.wrap ((Int.tmod x.GO 2) + (Int.tmod x.HM 2))) 1)
 (.AM S_fa_8 (D_fa_8 D_fa_3) (X_fa_8.mk x.EB x.GO x.HM (IntKind.u64.wrap (x.Dm + x.B5)) x.B5 x.Ht))
 (.AM S_fa_8 (D_fa_8 D_fa_3) (X_fa_8.mk x.EB x.GO x.HM x.Dm x.B5 x.Ht)))
 (.AM S_fa_8 (D_fa_8 D_fa_3) (X_fa_8.mk x.EB x.GO x.HM x.Dm x.B5 x.Ht))))
 (.ite (AW x.EB 10)
 (.ite (AW (IntKind.u64.wrap ((Int.tmod x.GO 2) + (Int.tmod x.HM 2))) 1)
 (.AM S_fa_8 (D_fa_8 D_fa_3) (X_fa_8.mk x.EB x.GO x.HM (IntKind.u64.wrap (x.Dm + x.B5)) x.B5 x.Ht))
 (.AM S_fa_8 (D_fa_8 D_fa_3) (X_fa_8.mk x.EB x.GO x.HM x.Dm x.B5 x.Ht)))
 (.AM S_fa_8 (D_fa_8 D_fa_3) (X_fa_8.mk x.EB x.GO x.HM x.Dm x.B5 x.Ht)))))
 (.ret x.Dm))
theorem sd_fa_3 (D_fa_3 : AU X_fa_3 R_fa) (x : X_fa_3) : (tt_fa_3 D_fa_3 x).AJ :=
 (TT.sI (TT.sI (TT.sI TT.sJ (TT.sI (TT.sI TT.sJ (TT.sI (TT.sI TT.sJ TT.sJ) TT.sJ)) (TT.sI (TT.sI TT.sJ TT.sJ) TT.sJ))) (TT.sI (TT.sI TT.sJ (TT.sI (TT.sI TT.sJ TT.sJ) TT.sJ)) (TT.sI (TT.sI TT.sJ TT.sJ) TT.sJ))) TT.sR)
def D_fa_3 : AU X_fa_3 R_fa := AU.loop tt_fa_3
theorem ok_fa_3 : AY J_fa S_fa_3 D_fa_3 :=
 A8 fun D_fa_3 h_3 => lk mxk (lbc h_3 rfl (lbc (ok_fa_4 D_fa_3 h_3) rfl (lbc (ok_fa_8 D_fa_3 h_3) rfl lbn))) (sd_fa_3 D_fa_3)
def tt_fa (x : X_fa) : TT Tryz.prog R_fa :=
 (.AM S_fa_3 D_fa_3 (X_fa_3.mk x.fst x.snd.fst x.snd.snd 0 1 0))
theorem sd_fa (x : X_fa) : (tt_fa x).AJ :=
 TT.sJ
def D_fa : AU X_fa R_fa := .of tt_fa
def con_fa : BE Tryz.prog :=
 B2 199 J_fa S_fa D_fa 3 0 [.any, .any, .any] (lk mxk (lbc ok_fa_3 rfl lbn) sd_fa)
abbrev X_fs : Type := Int × Int × Int
abbrev R_fs : Type := Int × Bool
def J_fs : BM Tryz.prog :=
 BS Tryz.prog Tryz.f174 84 [] [] [] [] [.any, .any] [] [con_fa] R_fs [] fun y => [V.Cb (V.cons ((V.int .u64) y.1) (V.cons (V.bool y.2) (V.unit)))]
def S_fs : AO :=
 Aj Tryz.f174 3 0 X_fs (fun x => [(V.int .i64) x.1, (V.int .u64) x.2.1, (V.int .u64) x.2.2]) fun l => (dI (at_ l 0), dI (at_ l 1), dI (at_ l 2))
structure X_fs_22 where
 GO : Int
 HM : Int
 Lc : Int
def S_fs_22 : AO :=
 Ad Tryz.f174 22 (an [1, 2, 8]) [] [] X_fs_22 (fun x => [(V.int .u64) x.GO, (V.int .u64) x.HM, (V.int .u64) x.Lc]) fun l => ⟨dI (at_ l 0), dI (at_ l 1), dI (at_ l 2)⟩
structure X_fs_25 where
 GO : Int
def S_fs_25 : AO :=
 Ad Tryz.f174 25 [(1, .any)] [] [] X_fs_25 (fun x => [(V.int .u64) x.GO]) fun l => ⟨dI (at_ l 0)⟩
structure X_fs_28 where
 GO : Int
 HM : Int
 Ht : Int
def S_fs_28 : AO :=
 Ad Tryz.f174 28 (an [1, 2, 9]) [] [] X_fs_28 (fun x => [(V.int .u64) x.GO, (V.int .u64) x.HM, (V.int .u64) x.Ht]) fun l => ⟨dI (at_ l 0), dI (at_ l 1), dI (at_ l 2)⟩
structure X_fs_31 where
 GO : Int
def S_fs_31 : AO :=
 Ad Tryz.f174 31 [(1, .any)] [] [] X_fs_31 (fun x => [(V.int .u64) x.GO]) fun l => ⟨dI (at_ l 0)⟩
def tt_fs_31 (x : X_fs_31) : TT Tryz.prog R_fs :=
 (.ret (x.GO, true))
theorem sd_fs_31 (x : X_fs_31) : (tt_fs_31 x).AJ :=
 TT.sR
def D_fs_31 : AU X_fs_31 R_fs := .of tt_fs_31
theorem ok_fs_31 : AY J_fs S_fs_31 D_fs_31 :=
 lk mxk lbn sd_fs_31
def tt_fs_28 (D_fs_28 : AU X_fs_28 R_fs) (x : X_fs_28) : TT Tryz.prog R_fs :=
 (.ite (Bq x.Ht (Int.tmod x.HM 64))
 (.AM S_fs_28 D_fs_28 (X_fs_28.mk (IntKind.u64.wrap (Int.tdiv x.GO 2)) x.HM (IntKind.u64.wrap (x.Ht + 1))))
 (.AM S_fs_31 D_fs_31 (X_fs_31.mk x.GO)))
theorem sd_fs_28 (D_fs_28 : AU X_fs_28 R_fs) (x : X_fs_28) : (tt_fs_28 D_fs_28 x).AJ :=
 (TT.sI TT.sJ TT.sJ)
def D_fs_28 : AU X_fs_28 R_fs := AU.loop tt_fs_28
theorem ok_fs_28 : AY J_fs S_fs_28 D_fs_28 :=
 A8 fun D_fs_28 h_28 => lk mxk (lbc h_28 rfl (lbc ok_fs_31 rfl lbn)) (sd_fs_28 D_fs_28)
def tt_fs_25 (x : X_fs_25) : TT Tryz.prog R_fs :=
 (.ret (x.GO, true))
theorem sd_fs_25 (x : X_fs_25) : (tt_fs_25 x).AJ :=
 TT.sR
def D_fs_25 : AU X_fs_25 R_fs := .of tt_fs_25
theorem ok_fs_25 : AY J_fs S_fs_25 D_fs_25 :=
 lk mxk (lbc ok_fs_31 rfl (lbc ok_fs_28 rfl lbn)) sd_fs_25
def tt_fs_22 (D_fs_22 : AU X_fs_22 R_fs) (x : X_fs_22) : TT Tryz.prog R_fs :=
 (.ite (Bq x.Lc (Int.tmod x.HM 64))
 (.AM S_fs_22 D_fs_22 (X_fs_22.mk (IntKind.u64.wrap (x.GO * 2)) x.HM (IntKind.u64.wrap (x.Lc + 1))))
 (.AM S_fs_25 D_fs_25 (X_fs_25.mk x.GO)))
theorem sd_fs_22 (D_fs_22 : AU X_fs_22 R_fs) (x : X_fs_22) : (tt_fs_22 D_fs_22 x).AJ :=
 (TT.sI TT.sJ TT.sJ)
def D_fs_22 : AU X_fs_22 R_fs := AU.loop tt_fs_22
theorem ok_fs_22 : AY J_fs S_fs_22 D_fs_22 :=
 A8 fun D_fs_22 h_22 => lk mxk (lbc h_22 rfl (lbc ok_fs_31 rfl (lbc ok_fs_28 rfl (lbc ok_fs_25 rfl lbn)))) (sd_fs_22 D_fs_22)
def tt_fs (x : X_fs) : TT Tryz.prog R_fs :=
 (.ite (AW x.fst 3)
 (.ret ((IntKind.u64.wrap (x.snd.fst + x.snd.snd)), true))
 (.ite (AW x.fst 4)
 (.ret ((IntKind.u64.wrap (x.snd.fst - x.snd.snd)), true))
 (.ite (AW x.fst 5)
 (.ret ((IntKind.u64.wrap (x.snd.fst * x.snd.snd)), true))
 (.ite (AW x.fst 6)
 (.ite (AW x.snd.snd 0)
 (.ret (0, true))
 (.need (!(AW x.snd.snd 0)) <|
 (.ret ((IntKind.u64.wrap (Int.tdiv x.snd.fst x.snd.snd)), true))))
 (.ite (AW x.fst 7)
 (.ite (AW x.snd.snd 0)
 (.ret (0, true))
 (.need (!(AW x.snd.snd 0)) <|
 (.ret ((IntKind.u64.wrap (x.snd.fst - (IntKind.u64.wrap ((IntKind.u64.wrap (Int.tdiv x.snd.fst x.snd.snd)) * x.snd.snd)))), true))))
 (.ite (AW x.fst 8)
 (.call con_fa x fun (y1 : R_fa) =>
 (.ret (y1, true)))
 (.ite (AW x.fst 9)
 (.call con_fa x fun (y1 : R_fa) =>
 (.ret (y1, true)))
 (.ite (AW x.fst 10)
 (.call con_fa x fun (y1 : R_fa) =>
 (.ret (y1, true)))
 (.ite (AW x.fst 11)
 (.AM S_fs_22 D_fs_22 (X_fs_22.mk x.snd.fst x.snd.snd 0))
 (.ite (AW x.fst 12)
 (.AM S_fs_28 D_fs_28 (X_fs_28.mk x.snd.fst x.snd.snd 0))
 (.ite (AW x.fst 13)
 (.ite (Bq x.snd.fst x.snd.snd)
 (.ret (1, true))
 (.ret (0, true)))
 (.ite (AW x.fst 14)
 (.ite (AW x.snd.fst x.snd.snd)
 (.ret (1, true))
 (.ret (0, true)))
 (.ret (0, false))))))))))))))
theorem sd_fs (x : X_fs) : (tt_fs x).AJ :=
 (TT.sI TT.sR (TT.sI TT.sR (TT.sI TT.sR (TT.sI (TT.sI TT.sR (TT.sN TT.sR)) (TT.sI (TT.sI TT.sR (TT.sN TT.sR)) (TT.sI (TT.sC fun _ => TT.sR) (TT.sI (TT.sC fun _ => TT.sR) (TT.sI (TT.sC fun _ => TT.sR) (TT.sI TT.sJ (TT.sI TT.sJ (TT.sI (TT.sI TT.sR TT.sR) (TT.sI (TT.sI TT.sR TT.sR) TT.sR))))))))))))
def D_fs : AU X_fs R_fs := .of tt_fs
def con_fs : BE Tryz.prog :=
 B2 174 J_fs S_fs D_fs 3 0 [.any, .any, .any] (lk mxk (lbc ok_fs_31 rfl (lbc ok_fs_28 rfl (lbc ok_fs_25 rfl (lbc ok_fs_22 rfl lbn)))) sd_fs)
abbrev X_f3x : Type := (Sl TIn) × TTh
abbrev R_f3x : Type := TTh
def J_f3x : BM Tryz.prog :=
 BS Tryz.prog Tryz.f138 100 [(8, 1), (78, 1)] [] [] [] [sh_TTh] [] [con_fs] R_f3x [] fun y => [e_TTh y]
def S_f3x : AO :=
 Aj Tryz.f138 2 0 X_f3x (fun x => [esl_TIn x.1, e_TTh x.2]) fun l => (dsl_TIn (at_ l 0), d_TTh (at_ l 1))
def tt_f3x (x : X_f3x) : TT Tryz.prog R_f3x :=
 (.need (A6 x.snd.At x.fst.n) <|
 (.ite (AW (x.fst.get (Int.toNat x.snd.At)).Op 1)
 (.need (A6 (x.fst.get (Int.toNat x.snd.At)).A 8) <|
 (.ret (TTh.mk (IntKind.i64.wrap (x.snd.At + 1)) x.snd.Phase x.snd.Ring x.snd.Status x.snd.AG (fun i1 => (cond (Nat.beq i1 (Int.toNat (x.fst.get (Int.toNat x.snd.At)).A)) (x.fst.get (Int.toNat x.snd.At)).K (x.snd.Ae i1))) x.snd.Seen)))
 (.ite (AW (x.fst.get (Int.toNat x.snd.At)).Op 2)
 (.need (A6 (x.fst.get (Int.toNat x.snd.At)).B 8) <|
 (.need (A6 (x.fst.get (Int.toNat x.snd.At)).A 8) <|
 (.ret (TTh.mk (IntKind.i64.wrap (x.snd.At + 1)) x.snd.Phase x.snd.Ring x.snd.Status x.snd.AG (fun i1 => (cond (Nat.beq i1 (Int.toNat (x.fst.get (Int.toNat x.snd.At)).A)) (x.snd.Ae (Int.toNat (x.fst.get (Int.toNat x.snd.At)).B)) (x.snd.Ae i1))) x.snd.Seen))))
 (.ite (AW (x.fst.get (Int.toNat x.snd.At)).Op 15)
 (.ret (TTh.mk (IntKind.i64.wrap (x.fst.get (Int.toNat x.snd.At)).K) x.snd.Phase x.snd.Ring x.snd.Status x.snd.AG x.snd.Ae x.snd.Seen))
 (.ite (AW (x.fst.get (Int.toNat x.snd.At)).Op 16)
 (.need (A6 (x.fst.get (Int.toNat x.snd.At)).A 8) <|
 (.ite (AW (x.snd.Ae (Int.toNat (x.fst.get (Int.toNat x.snd.At)).A)) 0)
 (.ret (TTh.mk (IntKind.i64.wrap (x.fst.get (Int.toNat x.snd.At)).K) x.snd.Phase x.snd.Ring x.snd.Status x.snd.AG x.snd.Ae x.snd.Seen))
 (.ite (AW (x.fst.get (Int.toNat x.snd.At)).Op 17)
 (.need (A6 (x.fst.get (Int.toNat x.snd.At)).A 8) <|
 (.ite (!(AW (x.snd.Ae (Int.toNat (x.fst.get (Int.toNat x.snd.At)).A)) 0))
 (.ret (TTh.mk (IntKind.i64.wrap (x.fst.get (Int.toNat x.snd.At)).K) x.snd.Phase x.snd.Ring x.snd.Status x.snd.AG x.snd.Ae x.snd.Seen))
 (.ite (Bq (x.fst.get (Int.toNat x.snd.At)).Op 15)
 (.need (A6 (x.fst.get (Int.toNat x.snd.At)).B 8) <|
 (.need (A6 (x.fst.get (Int.toNat x.snd.At)).C 8) <|
 (.call con_fs ((x.fst.get (Int.toNat x.snd.At)).Op, ((x.snd.Ae (Int.toNat (x.fst.get (Int.toNat x.snd.At)).B)), (x.snd.Ae (Int.toNat (x.fst.get (Int.toNat x.snd.At)).C)))) fun (y1 : R_fs) =>
 (.need (A6 (x.fst.get (Int.toNat x.snd.At)).A 8) <|
 (.ret (TTh.mk (IntKind.i64.wrap (x.snd.At + 1)) x.snd.Phase x.snd.Ring x.snd.Status x.snd.AG (fun i2 => (cond (Nat.beq i2 (Int.toNat (x.fst.get (Int.toNat x.snd.At)).A)) y1.fst (x.snd.Ae i2))) x.snd.Seen))))))
 (.ret (TTh.mk (IntKind.i64.wrap (x.snd.At + 1)) x.snd.Phase x.snd.Ring x.snd.Status x.snd.AG x.snd.Ae x.snd.Seen)))))
 (.ite (Bq (x.fst.get (Int.toNat x.snd.At)).Op 15)
 (.need (A6 (x.fst.get (Int.toNat x.snd.At)).B 8) <|
 (.need (A6 (x.fst.get (Int.toNat x.snd.At)).C 8) <|
 (.call con_fs ((x.fst.get (Int.toNat x.snd.At)).Op, ((x.snd.Ae (Int.toNat (x.fst.get (Int.toNat x.snd.At)).B)), (x.snd.Ae (Int.toNat (x.fst.get (Int.toNat x.snd.At)).C)))) fun (y1 : R_fs) =>
 (.need (A6 (x.fst.get (Int.toNat x.snd.At)).A 8) <|
 (.ret (TTh.mk (IntKind.i64.wrap (x.snd.At + 1)) x.snd.Phase x.snd.Ring x.snd.Status x.snd.AG (fun i2 => (cond (Nat.beq i2 (Int.toNat (x.fst.get (Int.toNat x.snd.At)).A)) y1.fst (x.snd.Ae i2))) x.snd.Seen))))))
 (.ret (TTh.mk (IntKind.i64.wrap (x.snd.At + 1)) x.snd.Phase x.snd.Ring x.snd.Status x.snd.AG x.snd.Ae x.snd.Seen))))))
 (.ite (AW (x.fst.get (Int.toNat x.snd.At)).Op 17)
 (.need (A6 (x.fst.get (Int.toNat x.snd.At)).A 8) <|
 (.ite (!(AW (x.snd.Ae (Int.toNat (x.fst.get (Int.toNat x.snd.At)).A)) 0))
 (.ret (TTh.mk (IntKind.i64.wrap (x.fst.get (Int.toNat x.snd.At)).K) x.snd.Phase x.snd.Ring x.snd.Status x.snd.AG x.snd.Ae x.snd.Seen))
 (.ite (Bq (x.fst.get (Int.toNat x.snd.At)).Op 15)
 (.need (A6 (x.fst.get (Int.toNat x.snd.At)).B 8) <|
 (.need (A6 (x.fst.get (Int.toNat x.snd.At)).C 8) <|
 (.call con_fs ((x.fst.get (Int.toNat x.snd.At)).Op, ((x.snd.Ae (Int.toNat (x.fst.get (Int.toNat x.snd.At)).B)), (x.snd.Ae (Int.toNat (x.fst.get (Int.toNat x.snd.At)).C)))) fun (y1 : R_fs) =>
 (.need (A6 (x.fst.get (Int.toNat x.snd.At)).A 8) <|
 (.ret (TTh.mk (IntKind.i64.wrap (x.snd.At + 1)) x.snd.Phase x.snd.Ring x.snd.Status x.snd.AG (fun i2 => (cond (Nat.beq i2 (Int.toNat (x.fst.get (Int.toNat x.snd.At)).A)) y1.fst (x.snd.Ae i2))) x.snd.Seen))))))
 (.ret (TTh.mk (IntKind.i64.wrap (x.snd.At + 1)) x.snd.Phase x.snd.Ring x.snd.Status x.snd.AG x.snd.Ae x.snd.Seen)))))
 (.ite (Bq (x.fst.get (Int.toNat x.snd.At)).Op 15)
 (.need (A6 (x.fst.get (Int.toNat x.snd.At)).B 8) <|
 (.need (A6 (x.fst.get (Int.toNat x.snd.At)).C 8) <|
 (.call con_fs ((x.fst.get (Int.toNat x.snd.At)).Op, ((x.snd.Ae (Int.toNat (x.fst.get (Int.toNat x.snd.At)).B)), (x.snd.Ae (Int.toNat (x.fst.get (Int.toNat x.snd.At)).C)))) fun (y1 : R_fs) =>
 (.need (A6 (x.fst.get (Int.toNat x.snd.At)).A 8) <|
 (.ret (TTh.mk (IntKind.i64.wrap (x.snd.At + 1)) x.snd.Phase x.snd.Ring x.snd.Status x.snd.AG (fun i2 => (cond (Nat.beq i2 (Int.toNat (x.fst.get (Int.toNat x.snd.At)).A)) y1.fst (x.snd.Ae i2))) x.snd.Seen))))))
 (.ret (TTh.mk (IntKind.i64.wrap (x.snd.At + 1)) x.snd.Phase x.snd.Ring x.snd.Status x.snd.AG x.snd.Ae x.snd.Seen)))))))))
theorem sd_f3x (x : X_f3x) : (tt_f3x x).AJ :=
 (TT.sN (TT.sI (TT.sN TT.sR) (TT.sI (TT.sN (TT.sN TT.sR)) (TT.sI TT.sR (TT.sI (TT.sN (TT.sI TT.sR (TT.sI (TT.sN (TT.sI TT.sR (TT.sI (TT.sN (TT.sN (TT.sC fun _ => (TT.sN TT.sR)))) TT.sR))) (TT.sI (TT.sN (TT.sN (TT.sC fun _ => (TT.sN TT.sR)))) TT.sR)))) (TT.sI (TT.sN (TT.sI TT.sR (TT.sI (TT.sN (TT.sN (TT.sC fun _ => (TT.sN TT.sR)))) TT.sR))) (TT.sI (TT.sN (TT.sN (TT.sC fun _ => (TT.sN TT.sR)))) TT.sR)))))))
def D_f3x : AU X_f3x R_f3x := .of tt_f3x
def con_f3x : BE Tryz.prog :=
 B2 138 J_f3x S_f3x D_f3x 2 0 [hsl_TIn, sh_TTh] (lk mxk lbn sd_f3x)
structure TA6 where
 Kind : Int
 Ring : Int
 Mode : Int
 Reader : Int
 AG : Int
 Value : Int
def d_TA6 (v : V) : TA6 :=
 ⟨dI (fd v 0), dI (fd v 1), dI (fd v 2), dI (fd v 3), dI (fd v 4), dI (fd v 5)⟩
def e_TA6 (x : TA6) : V :=
 V.cons ((V.int .i64) x.Kind) (V.cons ((V.int .i64) x.Ring) (V.cons ((V.int .i64) x.Mode) (V.cons ((V.int .i64) x.Reader) (V.cons ((V.int .u64) x.AG) (V.cons ((V.int .u64) x.Value) (V.unit))))))
theorem nu_e_TA6 (x : TA6) : (e_TA6 x).Cl := ⟨trivial, trivial, trivial, trivial, trivial, trivial, trivial⟩
abbrev X_fk : Type := (Sl TIn) × TTh
abbrev R_fk : Type := TTh × TA6
def J_fk : BM Tryz.prog :=
 BS Tryz.prog Tryz.f85 138 [(21, 1), (39, 1), (77, 1)] [] [] [] [sh_TTh, .any] [] [con_f3x] R_fk [] fun y => [V.Cb (V.cons (e_TTh y.1) (V.cons (e_TA6 y.2) (V.unit)))]
def S_fk : AO :=
 Aj Tryz.f85 2 0 X_fk (fun x => [esl_TIn x.1, e_TTh x.2]) fun l => (dsl_TIn (at_ l 0), d_TTh (at_ l 1))
structure X_fk_8 where
 CD : (Sl TIn)
 Es : Int
 BC : TTh
 Cc : TTh
 BI : TA6
def S_fk_8 : AO :=
 Ad Tryz.f85 8 [(0, hsl_TIn), (3, .any), (4, .any), (5, .any), (6, .any)] [] [(.loc 3 0, sh_TTh), (.loc 4 0, sh_TTh), (.loc 5 0, .any)] X_fk_8 (fun x => [esl_TIn x.CD, (V.ptr (.loc 3 0) []), (V.ptr (.loc 4 0) []), (V.ptr (.loc 5 0) []), (V.int .i64) x.Es, e_TTh x.BC, e_TTh x.Cc, e_TA6 x.BI]) fun l => ⟨dsl_TIn (at_ l 0), dI (at_ l 4), d_TTh (at_ l 5), d_TTh (at_ l 6), d_TA6 (at_ l 7)⟩
structure X_fk_10 where
 CD : (Sl TIn)
 Es : Int
 BC : TTh
 Cc : TTh
 BI : TA6
def S_fk_10 : AO :=
 Ad Tryz.f85 10 [(0, hsl_TIn), (3, .any), (4, .any), (5, .any), (6, .any)] [] [(.loc 3 0, sh_TTh), (.loc 4 0, sh_TTh), (.loc 5 0, .any)] X_fk_10 (fun x => [esl_TIn x.CD, (V.ptr (.loc 3 0) []), (V.ptr (.loc 4 0) []), (V.ptr (.loc 5 0) []), (V.int .i64) x.Es, e_TTh x.BC, e_TTh x.Cc, e_TA6 x.BI]) fun l => ⟨dsl_TIn (at_ l 0), dI (at_ l 4), d_TTh (at_ l 5), d_TTh (at_ l 6), d_TA6 (at_ l 7)⟩
structure X_fk_11 where
 CD : (Sl TIn)
 BC : TTh
 Cc : TTh
 BI : TA6
def S_fk_11 : AO :=
 Ad Tryz.f85 11 [(0, hsl_TIn), (3, .any), (4, .any), (5, .any)] [] [(.loc 3 0, sh_TTh), (.loc 4 0, sh_TTh), (.loc 5 0, .any)] X_fk_11 (fun x => [esl_TIn x.CD, (V.ptr (.loc 3 0) []), (V.ptr (.loc 4 0) []), (V.ptr (.loc 5 0) []), e_TTh x.BC, e_TTh x.Cc, e_TA6 x.BI]) fun l => ⟨dsl_TIn (at_ l 0), d_TTh (at_ l 4), d_TTh (at_ l 5), d_TA6 (at_ l 6)⟩
def tt_fk_11 (x : X_fk_11) : TT Tryz.prog R_fk :=
 (.ite (AW x.BC.At ((x.CD.n : Nat) : Int))
 (.ret (x.BC, (TA6.mk 8 0 0 0 0 0)))
 (.need (A6 x.BC.At x.CD.n) <|
 (.ite (AW (x.CD.get (Int.toNat x.BC.At)).Op 18)
 (.need (A6 (x.CD.get (Int.toNat x.BC.At)).A 8) <|
 (.ret (x.BC, (TA6.mk 1 (x.CD.get (Int.toNat x.BC.At)).C (x.CD.get (Int.toNat x.BC.At)).D 0 0 (x.BC.Ae (Int.toNat (x.CD.get (Int.toNat x.BC.At)).A))))))
 (.ite (AW (x.CD.get (Int.toNat x.BC.At)).Op 19)
 (.ret (x.BC, (TA6.mk 2 (x.CD.get (Int.toNat x.BC.At)).C (x.CD.get (Int.toNat x.BC.At)).D (IntKind.i64.wrap (x.CD.get (Int.toNat x.BC.At)).K) 0 0)))
 (.ite (AW (x.CD.get (Int.toNat x.BC.At)).Op 20)
 (.ret (x.BC, (TA6.mk 3 (x.CD.get (Int.toNat x.BC.At)).C 0 0 0 0)))
 (.ite (AW (x.CD.get (Int.toNat x.BC.At)).Op 21)
 (.ret (x.BC, (TA6.mk (IntKind.i64.wrap ((x.CD.get (Int.toNat x.BC.At)).Op - 17)) 0 0 0 0 0)))
 (.ite (AW (x.CD.get (Int.toNat x.BC.At)).Op 22)
 (.ret (x.BC, (TA6.mk (IntKind.i64.wrap ((x.CD.get (Int.toNat x.BC.At)).Op - 17)) 0 0 0 0 0)))
 (.ite (AW (x.CD.get (Int.toNat x.BC.At)).Op 23)
 (.ret (x.BC, (TA6.mk (IntKind.i64.wrap ((x.CD.get (Int.toNat x.BC.At)).Op - 17)) 0 0 0 0 0)))
 (.ite (AW (x.CD.get (Int.toNat x.BC.At)).Op 24)
 (.need (A6 (x.CD.get (Int.toNat x.BC.At)).A 8) <|
 (.ret (x.BC, (TA6.mk 7 0 0 0 0 (x.BC.Ae (Int.toNat (x.CD.get (Int.toNat x.BC.At)).A))))))
 (.ite (AW (x.CD.get (Int.toNat x.BC.At)).Op 25)
 (.ret (x.BC, (TA6.mk 8 0 0 0 0 0)))
 (.ret (x.BC, (TA6.mk 9 0 0 0 0 0)))))))))))))
theorem sd_fk_11 (x : X_fk_11) : (tt_fk_11 x).AJ :=
 (TT.sI TT.sR (TT.sN (TT.sI (TT.sN TT.sR) (TT.sI TT.sR (TT.sI TT.sR (TT.sI TT.sR (TT.sI TT.sR (TT.sI TT.sR (TT.sI (TT.sN TT.sR) (TT.sI TT.sR TT.sR))))))))))
def D_fk_11 : AU X_fk_11 R_fk := .of tt_fk_11
theorem ok_fk_11 : AY J_fk S_fk_11 D_fk_11 :=
 lk mxk lbn sd_fk_11
def tt_fk_10 (D_fk_8 : AU X_fk_8 R_fk) (x : X_fk_10) : TT Tryz.prog R_fk :=
 (.call con_f3x (x.CD, x.BC) fun (y2 : R_f3x) =>
 (.AM S_fk_8 D_fk_8 (X_fk_8.mk x.CD (IntKind.i64.wrap (x.Es + 1)) y2 x.Cc x.BI)))
theorem sd_fk_10 (D_fk_8 : AU X_fk_8 R_fk) (x : X_fk_10) : (tt_fk_10 D_fk_8 x).AJ :=
 (TT.sC fun _ => TT.sJ)
def D_fk_10 (D_fk_8 : AU X_fk_8 R_fk) : AU X_fk_10 R_fk := .of (tt_fk_10 D_fk_8)
theorem ok_fk_10 (D_fk_8 : AU X_fk_8 R_fk) (h_8 : AY J_fk S_fk_8 D_fk_8) : AY J_fk S_fk_10 (D_fk_10 D_fk_8) :=
 lk mxk (lbc h_8 rfl (lbc ok_fk_11 rfl lbn)) (sd_fk_10 D_fk_8)
def tt_fk_8 (D_fk_8 : AU X_fk_8 R_fk) (x : X_fk_8) : TT Tryz.prog R_fk :=
 (.ite (Bq x.Es 256)
 (.ite (Bq x.BC.At ((x.CD.n : Nat) : Int))
 (.need (A6 x.BC.At x.CD.n) <|
 (.ite (Bw (x.CD.get (Int.toNat x.BC.At)).Op 17)
 (.AM S_fk_10 (D_fk_10 D_fk_8) (X_fk_10.mk x.CD x.Es x.BC x.Cc x.BI))
 (.AM S_fk_11 D_fk_11 (X_fk_11.mk x.CD x.BC x.Cc x.BI))))
 (.AM S_fk_11 D_fk_11 (X_fk_11.mk x.CD x.BC x.Cc x.BI)))
 (.AM S_fk_11 D_fk_11 (X_fk_11.mk x.CD x.BC x.Cc x.BI)))
theorem sd_fk_8 (D_fk_8 : AU X_fk_8 R_fk) (x : X_fk_8) : (tt_fk_8 D_fk_8 x).AJ :=
 (TT.sI (TT.sI (TT.sN (TT.sI TT.sJ TT.sJ)) TT.sJ) TT.sJ)
def D_fk_8 : AU X_fk_8 R_fk := AU.loop tt_fk_8
theorem ok_fk_8 : AY J_fk S_fk_8 D_fk_8 :=
 A8 fun D_fk_8 h_8 => lk mxk (lbc h_8 rfl (lbc ok_fk_11 rfl (lbc (ok_fk_10 D_fk_8 h_8) rfl lbn))) (sd_fk_8 D_fk_8)
def tt_fk (x : X_fk) : TT Tryz.prog R_fk :=
 (.ite (!(AW x.snd.Status 0))
 (.ret (x.snd, (TA6.mk 0 0 0 0 0 0)))
 (.ite (AW x.snd.Phase 1)
 (.need (A6 x.snd.At x.fst.n) <|
 (.need (A6 (x.fst.get (Int.toNat x.snd.At)).A 8) <|
 (.ret (x.snd, (TA6.mk 10 x.snd.Ring 0 0 x.snd.AG (x.snd.Ae (Int.toNat (x.fst.get (Int.toNat x.snd.At)).A)))))))
 (.ite (AW x.snd.Phase 2)
 (.need (A6 x.snd.At x.fst.n) <|
 (.ret (x.snd, (TA6.mk 11 x.snd.Ring 0 (IntKind.i64.wrap (x.fst.get (Int.toNat x.snd.At)).K) x.snd.AG 0))))
 (.AM S_fk_8 D_fk_8 (X_fk_8.mk x.fst 0 x.snd (TTh.mk 0 0 0 0 0 (fun _i1 => (0 : Int)) (Sl.mk true 0 (fun _i1 => (0 : Int)))) (TA6.mk 0 0 0 0 0 0))))))
theorem sd_fk (x : X_fk) : (tt_fk x).AJ :=
 (TT.sI TT.sR (TT.sI (TT.sN (TT.sN TT.sR)) (TT.sI (TT.sN TT.sR) TT.sJ)))
def D_fk : AU X_fk R_fk := .of tt_fk
def con_fk : BE Tryz.prog :=
 B2 85 J_fk S_fk D_fk 2 0 [hsl_TIn, sh_TTh] (lk mxk (lbc ok_fk_11 rfl (lbc ok_fk_8 rfl lbn)) sd_fk)
abbrev X_f3z : Type := TPg × TSt × Int
abbrev R_f3z : Type := TA6
def J_f3z : BM Tryz.prog :=
 BS Tryz.prog Tryz.f49 24 [(3, 3), (4, 3), (9, 1)] [] [] [] [.any] [] [con_fk] R_f3z [] fun y => [e_TA6 y]
def S_f3z : AO :=
 Aj Tryz.f49 3 0 X_f3z (fun x => [e_TPg x.1, e_TSt x.2.1, (V.int .i64) x.2.2]) fun l => (d_TPg (at_ l 0), d_TSt (at_ l 1), dI (at_ l 2))
def tt_f3z (x : X_f3z) : TT Tryz.prog R_f3z :=
 (.need (A6 x.snd.snd x.fst.AB.n) <|
 (.need (A6 x.snd.snd x.snd.fst.AB.n) <|
 (.call con_fk ((x.fst.AB.get (Int.toNat x.snd.snd)), (x.snd.fst.AB.get (Int.toNat x.snd.snd))) fun (y1 : R_fk) =>
 (.ret y1.snd))))
theorem sd_f3z (x : X_f3z) : (tt_f3z x).AJ :=
 (TT.sN (TT.sN (TT.sC fun _ => TT.sR)))
def D_f3z : AU X_f3z R_f3z := .of tt_f3z
def con_f3z : BE Tryz.prog :=
 B2 49 J_f3z S_f3z D_f3z 3 0 [sh_TPg, sh_TSt, .any] (lk mxk lbn sd_f3z)
abbrev X_f4f : Type := TRg × TRs
abbrev R_f4f : Type := TR3
def J_f4f : BM Tryz.prog :=
 BS Tryz.prog Tryz.f139 24 [(2, 3), (3, 3)] [] [] [] [sh_TR3] [] [] R_f4f [] fun y => [e_TR3 y]
def S_f4f : AO :=
 Aj Tryz.f139 2 0 X_f4f (fun x => [e_TRg x.1, e_TRs x.2]) fun l => (d_TRg (at_ l 0), d_TRs (at_ l 1))
def tt_f4f (x : X_f4f) : TT Tryz.prog R_f4f :=
 (.need (true && (room ((0 : Nat) + x.snd.AV.n) 8)) <|
 (.need (true && (room ((0 : Nat) + x.snd.Al.n) 24)) <|
 (.ret (TR3.mk (IntKind.u64.wrap x.fst.DP) x.snd.A0 (Sl.mk (cond (Nat.beq x.snd.AV.n 0) false false) ((0 : Nat) + x.snd.AV.n) (fun i1 => (cond (Nat.blt i1 0) (0 : Int) (x.snd.AV.get (i1 - 0))))) x.snd.As (TR2.mk (Sl.mk (cond (Nat.beq x.snd.Al.n 0) false false) ((0 : Nat) + x.snd.Al.n) (fun i1 => (TSo.mk (cond (Nat.blt i1 0) (0 : Int) (x.snd.Al.get (i1 - 0)).AP) (cond (Nat.blt i1 0) (0 : Int) (x.snd.Al.get (i1 - 0)).Value) (cond (Nat.blt i1 0) (0 : Int) (x.snd.Al.get (i1 - 0)).Left)))) x.fst.AR)))))
theorem sd_f4f (x : X_f4f) : (tt_f4f x).AJ :=
 (TT.sN (TT.sN TT.sR))
def D_f4f : AU X_f4f R_f4f := .of tt_f4f
def con_f4f : BE Tryz.prog :=
 B2 139 J_f4f S_f4f D_f4f 2 0 [.any, sh_TRs] (lk mxk lbn sd_f4f)
abbrev X_f3g : Type := TPg × TSt × Int
abbrev R_f3g : Type := TR3
def J_f3g : BM Tryz.prog :=
 BS Tryz.prog Tryz.f86 18 [(3, 3), (4, 3)] [] [] [] [sh_TR3] [] [con_f4f] R_f3g [] fun y => [e_TR3 y]
def S_f3g : AO :=
 Aj Tryz.f86 3 0 X_f3g (fun x => [e_TPg x.1, e_TSt x.2.1, (V.int .i64) x.2.2]) fun l => (d_TPg (at_ l 0), d_TSt (at_ l 1), dI (at_ l 2))
def tt_f3g (x : X_f3g) : TT Tryz.prog R_f3g :=
 (.need (A6 x.snd.snd x.fst.AF.n) <|
 (.need (A6 x.snd.snd x.snd.fst.AF.n) <|
 (.call con_f4f ((x.fst.AF.get (Int.toNat x.snd.snd)), (x.snd.fst.AF.get (Int.toNat x.snd.snd))) fun (y1 : R_f4f) =>
 (.ret y1))))
theorem sd_f3g (x : X_f3g) : (tt_f3g x).AJ :=
 (TT.sN (TT.sN (TT.sC fun _ => TT.sR)))
def D_f3g : AU X_f3g R_f3g := .of tt_f3g
def con_f3g : BE Tryz.prog :=
 B2 86 J_f3g S_f3g D_f3g 3 0 [sh_TPg, sh_TSt, .any] (lk mxk lbn sd_f3g)
abbrev X_fr : Type := (Sl Int)
abbrev R_fr : Type := Int
def J_fr : BM Tryz.prog :=
 BS Tryz.prog Tryz.f140 25 [] [] [] [] [.any] [] [] R_fr [] fun y => [(V.int .u64) y]
def S_fr : AO :=
 Aj Tryz.f140 1 0 X_fr (fun x => [BG x]) fun l => (Bc (at_ l 0))
structure X_fr_3 where
 CD : (Sl Int)
 Rf : Int
 EA : Int
def S_fr_3 : AO :=
 Ad Tryz.f140 3 [(0, BP), (3, .any), (4, .any)] [] [] X_fr_3 (fun x => [BG x.CD, (V.int .u64) x.Rf, (V.int .i64) x.EA]) fun l => ⟨Bc (at_ l 0), dI (at_ l 1), dI (at_ l 2)⟩
structure X_fr_4 where
 CD : (Sl Int)
 Rf : Int
 EA : Int
def S_fr_4 : AO :=
 Ad Tryz.f140 4 [(0, BP), (3, .any), (4, .any)] [] [] X_fr_4 (fun x => [BG x.CD, (V.int .u64) x.Rf, (V.int .i64) x.EA]) fun l => ⟨Bc (at_ l 0), dI (at_ l 1), dI (at_ l 2)⟩
def tt_fr_4 (D_fr_3 : AU X_fr_3 R_fr) (x : X_fr_4) : TT Tryz.prog R_fr :=
 (.AM S_fr_3 D_fr_3 (X_fr_3.mk x.CD x.Rf (IntKind.i64.wrap (x.EA + 1))))
theorem sd_fr_4 (D_fr_3 : AU X_fr_3 R_fr) (x : X_fr_4) : (tt_fr_4 D_fr_3 x).AJ :=
 TT.sJ
def D_fr_4 (D_fr_3 : AU X_fr_3 R_fr) : AU X_fr_4 R_fr := .of (tt_fr_4 D_fr_3)
theorem ok_fr_4 (D_fr_3 : AU X_fr_3 R_fr) (h_3 : AY J_fr S_fr_3 D_fr_3) : AY J_fr S_fr_4 (D_fr_4 D_fr_3) :=
 lk mxk (lbc h_3 rfl lbn) (sd_fr_4 D_fr_3)
def tt_fr_3 (D_fr_3 : AU X_fr_3 R_fr) (x : X_fr_3) : TT Tryz.prog R_fr :=
 (.ite (Bq x.EA ((x.CD.n : Nat) : Int))
 (.need (A6 x.EA x.CD.n) <|
 (.ite (Bq (x.CD.get (Int.toNat x.EA)) x.Rf)
 (.need (A6 x.EA x.CD.n) <|
 (.AM S_fr_4 (D_fr_4 D_fr_3) (X_fr_4.mk x.CD (x.CD.get (Int.toNat x.EA)) x.EA)))
 (.AM S_fr_4 (D_fr_4 D_fr_3) (X_fr_4.mk x.CD x.Rf x.EA))))
 (.ret x.Rf))
theorem sd_fr_3 (D_fr_3 : AU X_fr_3 R_fr) (x : X_fr_3) : (tt_fr_3 D_fr_3 x).AJ :=
 (TT.sI (TT.sN (TT.sI (TT.sN TT.sJ) TT.sJ)) TT.sR)
def D_fr_3 : AU X_fr_3 R_fr := AU.loop tt_fr_3
theorem ok_fr_3 : AY J_fr S_fr_3 D_fr_3 :=
 A8 fun D_fr_3 h_3 => lk mxk (lbc h_3 rfl (lbc (ok_fr_4 D_fr_3 h_3) rfl lbn)) (sd_fr_3 D_fr_3)
def tt_fr (x : X_fr) : TT Tryz.prog R_fr :=
 (.need (A6 0 x.n) <|
 (.AM S_fr_3 D_fr_3 (X_fr_3.mk x (x.get (Int.toNat 0)) 0)))
theorem sd_fr (x : X_fr) : (tt_fr x).AJ :=
 (TT.sN TT.sJ)
def D_fr : AU X_fr R_fr := .of tt_fr
def con_fr : BE Tryz.prog :=
 B2 140 J_fr S_fr D_fr 1 0 [BP] (lk mxk (lbc ok_fr_3 rfl lbn) sd_fr)
abbrev X_f3m : Type := TR3
abbrev R_f3m : Type := Bool
def J_f3m : BM Tryz.prog :=
 BS Tryz.prog Tryz.f87 12 [(1, 3)] [] [] [] [.any] [] [con_fr] R_f3m [] fun y => [V.bool y]
def S_f3m : AO :=
 Aj Tryz.f87 1 0 X_f3m (fun x => [e_TR3 x]) fun l => (d_TR3 (at_ l 0))
def tt_f3m (x : X_f3m) : TT Tryz.prog R_f3m :=
 (.call con_fr x.AV fun (y1 : R_fr) =>
 (.ret (Bw x.DP (IntKind.u64.wrap (x.A0 - y1)))))
theorem sd_f3m (x : X_f3m) : (tt_f3m x).AJ :=
 (TT.sC fun _ => TT.sR)
def D_f3m : AU X_f3m R_f3m := .of tt_f3m
def con_f3m : BE Tryz.prog :=
 B2 87 J_f3m S_f3m D_f3m 1 0 [sh_TR3] (lk mxk lbn sd_f3m)
abbrev X_f37 : Type := TR3 × Int
abbrev R_f37 : Type := Bool
def J_f37 : BM Tryz.prog :=
 BS Tryz.prog Tryz.f88 13 [(2, 3)] [] [] [] [.any] [] [] R_f37 [] fun y => [V.bool y]
def S_f37 : AO :=
 Aj Tryz.f88 2 0 X_f37 (fun x => [e_TR3 x.1, (V.int .i64) x.2]) fun l => (d_TR3 (at_ l 0), dI (at_ l 1))
def tt_f37 (x : X_f37) : TT Tryz.prog R_f37 :=
 (.need (A6 x.snd x.fst.AV.n) <|
 (.ret (AW (x.fst.AV.get (Int.toNat x.snd)) x.fst.A0)))
theorem sd_f37 (x : X_f37) : (tt_f37 x).AJ :=
 (TT.sN TT.sR)
def D_f37 : AU X_f37 R_f37 := .of tt_f37
def con_f37 : BE Tryz.prog :=
 B2 88 J_f37 S_f37 D_f37 2 0 [sh_TR3, .any] (lk mxk lbn sd_f37)
abbrev X_f3y : Type := Int
abbrev R_f3y : Type := ByteArray
def J_f3y : BM Tryz.prog :=
 BS Tryz.prog Tryz.f141 19 [] [] [] [] [.any] [] [] R_f3y [] fun y => [V.str y]
def S_f3y : AO :=
 Aj Tryz.f141 1 0 X_f3y (fun x => [(V.int .i64) x]) fun l => (dI (at_ l 0))
def tt_f3y (x : X_f3y) : TT Tryz.prog R_f3y :=
 (.ite (AW x 1)
 (.ret (ByteArray.mk #[82, 84]))
 (.ite (AW x 2)
 (.ret (ByteArray.mk #[82, 84]))
 (.ite (AW x 3)
 (.ret (ByteArray.mk #[82, 84]))
 (.ite (AW x 4)
 (.ret (ByteArray.mk #[82, 84]))
 (.ite (AW x 13)
 (.ret (ByteArray.mk #[82, 84]))
 (.ite (AW x 5)
 (.ret (ByteArray.mk #[82]))
 (.ite (AW x 6)
 (.ret (ByteArray.mk #[82]))
 (.ite (AW x 7)
 (.ret (ByteArray.mk #[82]))
 (.ite (AW x 8)
 (.ret (ByteArray.mk #[86]))
 (.ite (AW x 9)
 (.ret (ByteArray.mk #[86]))
 (.ite (AW x 10)
 (.ret (ByteArray.mk #[86]))
 (.ite (AW x 12)
 (.ret (ByteArray.mk #[86]))
 (.ret (ByteArray.mk #[]))))))))))))))
theorem sd_f3y (x : X_f3y) : (tt_f3y x).AJ :=
 (TT.sI TT.sR (TT.sI TT.sR (TT.sI TT.sR (TT.sI TT.sR (TT.sI TT.sR (TT.sI TT.sR (TT.sI TT.sR (TT.sI TT.sR (TT.sI TT.sR (TT.sI TT.sR (TT.sI TT.sR (TT.sI TT.sR TT.sR))))))))))))
def D_f3y : AU X_f3y R_f3y := .of tt_f3y
def con_f3y : BE Tryz.prog :=
 B2 141 J_f3y S_f3y D_f3y 1 0 [.any] (lk mxk lbn sd_f3y)
abbrev X_f2x : Type := Int
abbrev R_f2x : Type := ByteArray
def J_f2x : BM Tryz.prog :=
 BS Tryz.prog Tryz.f142 16 [(11, 1)] [] [] [] [.any] [] [] R_f2x [] fun y => [V.str y]
def S_f2x : AO :=
 Aj Tryz.f142 1 0 X_f2x (fun x => [(V.int .i64) x]) fun l => (dI (at_ l 0))
structure X_f2x_4 where
 IM : Int
 NZ : (Sl ByteArray)
def S_f2x_4 : AO :=
 Ad Tryz.f142 4 [(0, .any), (3, Qn)] [] [] X_f2x_4 (fun x => [(V.int .i64) x.IM, Qt x.NZ]) fun l => ⟨dI (at_ l 0), Um (at_ l 1)⟩
def tt_f2x_4 (x : X_f2x_4) : TT Tryz.prog R_f2x :=
 (.need (A6 (IntKind.i64.wrap (x.IM - 1)) x.NZ.n) <|
 (.ret (x.NZ.get (Int.toNat (IntKind.i64.wrap (x.IM - 1))))))
theorem sd_f2x_4 (x : X_f2x_4) : (tt_f2x_4 x).AJ :=
 (TT.sN TT.sR)
def D_f2x_4 : AU X_f2x_4 R_f2x := .of tt_f2x_4
theorem ok_f2x_4 : AY J_f2x S_f2x_4 D_f2x_4 :=
 lk mxk lbn sd_f2x_4
def tt_f2x (x : X_f2x) : TT Tryz.prog R_f2x :=
 (.ite (Bq x 1)
 (.ret (ByteArray.mk #[]))
 (.ite (Bq 15 x)
 (.ret (ByteArray.mk #[]))
 (.AM S_f2x_4 D_f2x_4 (X_f2x_4.mk x (Sl.mk false 15 (fun i1 => (cond (Nat.beq i1 0) (ByteArray.mk #[99, 108, 97, 105, 109]) (cond (Nat.beq i1 1) (ByteArray.mk #[112, 117, 98, 108, 105, 115, 104]) (cond (Nat.beq i1 2) (ByteArray.mk #[116, 97, 107, 101]) (cond (Nat.beq i1 3) (ByteArray.mk #[114, 101, 108, 101, 97, 115, 101]) (cond (Nat.beq i1 4) (ByteArray.mk #[110, 111]) (cond (Nat.beq i1 5) (ByteArray.mk #[115, 104, 117, 116]) (cond (Nat.beq i1 6) (ByteArray.mk #[116, 105, 109, 101]) (cond (Nat.beq i1 7) (ByteArray.mk #[99, 108, 111, 99, 107]) (cond (Nat.beq i1 8) (ByteArray.mk #[100, 114, 97, 119]) (cond (Nat.beq i1 9) (ByteArray.mk #[114, 101, 97, 100]) (cond (Nat.beq i1 10) (ByteArray.mk #[101, 110, 100]) (cond (Nat.beq i1 11) (ByteArray.mk #[115, 101, 101]) (cond (Nat.beq i1 12) (ByteArray.mk #[99, 108, 111, 115, 101]) (cond (Nat.beq i1 13) (ByteArray.mk #[104, 97, 108, 116]) (ByteArray.mk #[115, 112, 105, 110])))))))))))))))))))))
theorem sd_f2x (x : X_f2x) : (tt_f2x x).AJ :=
 (TT.sI TT.sR (TT.sI TT.sR TT.sJ))
def D_f2x : AU X_f2x R_f2x := .of tt_f2x
def con_f2x : BE Tryz.prog :=
 B2 142 J_f2x S_f2x D_f2x 1 0 [.any] (lk mxk (lbc ok_f2x_4 rfl lbn) sd_f2x)
abbrev X_f1u : Type := ByteArray × Int
abbrev R_f1u : Type := Bool
def J_f1u : BM Tryz.prog :=
 BS Tryz.prog Tryz.f143 17 [] [] [] [] [.any] [] [] R_f1u [] fun y => [V.bool y]
def S_f1u : AO :=
 Aj Tryz.f143 2 0 X_f1u (fun x => [V.str x.1, (V.int .u8) x.2]) fun l => (dS (at_ l 0), dI (at_ l 1))
structure X_f1u_2 where
 T0 : ByteArray
 c_1 : Int
 D0 : Int
def S_f1u_2 : AO :=
 Ad Tryz.f143 2 (an [0, 1, 5]) [] [] X_f1u_2 (fun x => [V.str x.T0, (V.int .u8) x.c_1, (V.int .i64) x.D0]) fun l => ⟨dS (at_ l 0), dI (at_ l 1), dI (at_ l 2)⟩
def tt_f1u_2 (D_f1u_2 : AU X_f1u_2 R_f1u) (x : X_f1u_2) : TT Tryz.prog R_f1u :=
 (.ite (Bq x.D0 (((ByteArray.size x.T0) : Nat) : Int))
 (.need (A6 x.D0 (ByteArray.size x.T0)) <|
 (.ite (AW (bt x.T0 (Int.toNat x.D0)) x.c_1)
 (.ret true)
 (.AM S_f1u_2 D_f1u_2 (X_f1u_2.mk x.T0 x.c_1 (IntKind.i64.wrap (x.D0 + 1))))))
 (.ret false))
theorem sd_f1u_2 (D_f1u_2 : AU X_f1u_2 R_f1u) (x : X_f1u_2) : (tt_f1u_2 D_f1u_2 x).AJ :=
 (TT.sI (TT.sN (TT.sI TT.sR TT.sJ)) TT.sR)
def D_f1u_2 : AU X_f1u_2 R_f1u := AU.loop tt_f1u_2
theorem ok_f1u_2 : AY J_f1u S_f1u_2 D_f1u_2 :=
 A8 fun D_f1u_2 h_2 => lk mxk (lbc h_2 rfl lbn) (sd_f1u_2 D_f1u_2)
def tt_f1u (x : X_f1u) : TT Tryz.prog R_f1u :=
 (.AM S_f1u_2 D_f1u_2 (X_f1u_2.mk x.fst x.snd 0))
theorem sd_f1u (x : X_f1u) : (tt_f1u x).AJ :=
 TT.sJ
def D_f1u : AU X_f1u R_f1u := .of tt_f1u
def con_f1u : BE Tryz.prog :=
 B2 143 J_f1u S_f1u D_f1u 2 0 [.any, .any] (lk mxk (lbc ok_f1u_2 rfl lbn) sd_f1u)
abbrev X_f2j : Type := TEv
abbrev R_f2j : Type := Bool
def J_f2j : BM Tryz.prog :=
 BS Tryz.prog Tryz.f89 61 [(1, 3)] [] [] [] [.any] [] [con_f2x, con_f3y, con_f1u] R_f2j [] fun y => [V.bool y]
def S_f2j : AO :=
 Aj Tryz.f89 1 0 X_f2j (fun x => [e_TEv x]) fun l => (d_TEv (at_ l 0))
structure X_f2j_4 where
 U1 : TEv
 Nn : ByteArray
def S_f2j_4 : AO :=
 Ad Tryz.f89 4 (an [1, 3]) [] [] X_f2j_4 (fun x => [(Ch e_TEv) x.U1, V.str x.Nn]) fun l => ⟨(Ci d_TEv) (at_ l 0), dS (at_ l 1)⟩
def tt_f2j_4 (x : X_f2j_4) : TT Tryz.prog R_f2j :=
 (.call con_f1u (x.Nn, 82) fun (y1 : R_f1u) =>
 (.ite y1
 (.call con_f1u (x.Nn, 84) fun (y2 : R_f1u) =>
 (.ite y2
 (.call con_f1u (x.Nn, 86) fun (y3 : R_f1u) =>
 (.ite y3
 (.ret true)
 (.ret (AW x.U1.Value 0))))
 (.ite (AW x.U1.AG 0)
 (.call con_f1u (x.Nn, 86) fun (y3 : R_f1u) =>
 (.ite y3
 (.ret true)
 (.ret (AW x.U1.Value 0))))
 (.ret false))))
 (.ite (AW x.U1.Ring 0)
 (.call con_f1u (x.Nn, 84) fun (y2 : R_f1u) =>
 (.ite y2
 (.call con_f1u (x.Nn, 86) fun (y3 : R_f1u) =>
 (.ite y3
 (.ret true)
 (.ret (AW x.U1.Value 0))))
 (.ite (AW x.U1.AG 0)
 (.call con_f1u (x.Nn, 86) fun (y3 : R_f1u) =>
 (.ite y3
 (.ret true)
 (.ret (AW x.U1.Value 0))))
 (.ret false))))
 (.ret false))))
theorem sd_f2j_4 (x : X_f2j_4) : (tt_f2j_4 x).AJ :=
 (TT.sC fun _ => (TT.sI (TT.sC fun _ => (TT.sI (TT.sC fun _ => (TT.sI TT.sR TT.sR)) (TT.sI (TT.sC fun _ => (TT.sI TT.sR TT.sR)) TT.sR))) (TT.sI (TT.sC fun _ => (TT.sI (TT.sC fun _ => (TT.sI TT.sR TT.sR)) (TT.sI (TT.sC fun _ => (TT.sI TT.sR TT.sR)) TT.sR))) TT.sR)))
def D_f2j_4 : AU X_f2j_4 R_f2j := .of tt_f2j_4
theorem ok_f2j_4 : AY J_f2j S_f2j_4 D_f2j_4 :=
 lk mxk lbn sd_f2j_4
def tt_f2j (x : X_f2j) : TT Tryz.prog R_f2j :=
 (.call con_f3y x.Kind fun (y1 : R_f3y) =>
 (.call con_f2x x.Kind fun (y2 : R_f2x) =>
 (.ite (seq y2 (ByteArray.mk #[]))
 (.ret false)
 (.ite (Bq x.Thread 0)
 (.ret false)
 (.ite (Bq 7 x.Thread)
 (.ret false)
 (.ite (Bq x.Ring 0)
 (.ret false)
 (.ite (Bq 7 x.Ring)
 (.ret false)
 (.ite (Bw 4611686018427387904 x.AG)
 (.ret false)
 (.AM S_f2j_4 D_f2j_4 (X_f2j_4.mk x y1))))))))))
theorem sd_f2j (x : X_f2j) : (tt_f2j x).AJ :=
 (TT.sC fun _ => (TT.sC fun _ => (TT.sI TT.sR (TT.sI TT.sR (TT.sI TT.sR (TT.sI TT.sR (TT.sI TT.sR (TT.sI TT.sR TT.sJ))))))))
def D_f2j : AU X_f2j R_f2j := .of tt_f2j
def con_f2j : BE Tryz.prog :=
 B2 89 J_f2j S_f2j D_f2j 1 0 [.any] (lk mxk (lbc ok_f2j_4 rfl lbn) sd_f2j)
abbrev X_f2p : Type := TA6 × TEv
abbrev R_f2p : Type := Bool
def J_f2p : BM Tryz.prog :=
 BS Tryz.prog Tryz.f90 166 [(2, 3), (3, 3)] [] [] [] [.any] [] [] R_f2p [] fun y => [V.bool y]
def S_f2p : AO :=
 Aj Tryz.f90 2 0 X_f2p (fun x => [e_TA6 x.1, e_TEv x.2]) fun l => (d_TA6 (at_ l 0), d_TEv (at_ l 1))
structure X_f2p_2 where
 Df : TA6
 D1 : TEv
 QW : Bool
def S_f2p_2 : AO :=
 Ad Tryz.f90 2 (an [2, 3, 5]) [] [] X_f2p_2 (fun x => [(Ch e_TA6) x.Df, (Ch e_TEv) x.D1, V.bool x.QW]) fun l => ⟨(Ci d_TA6) (at_ l 0), (Ci d_TEv) (at_ l 1), dB (at_ l 2)⟩
def tt_f2p_2 (x : X_f2p_2) : TT Tryz.prog R_f2p :=
 (.ite (AW x.D1.Kind 1)
 (.ite (AW x.Df.Kind 1)
 (.ret (AW x.Df.Ring x.D1.Ring))
 (.ret false))
 (.ite (AW x.D1.Kind 2)
 (.ite (AW x.Df.Kind 10)
 (.ite (AW x.Df.Ring x.D1.Ring)
 (.ret (AW x.Df.AG x.D1.AG))
 (.ret false))
 (.ret false))
 (.ite (AW x.D1.Kind 3)
 (.ite (AW x.Df.Kind 2)
 (.ret (AW x.Df.Ring x.D1.Ring))
 (.ret false))
 (.ite (AW x.D1.Kind 4)
 (.ite (AW x.Df.Kind 11)
 (.ite (AW x.Df.Ring x.D1.Ring)
 (.ret (AW x.Df.AG x.D1.AG))
 (.ret false))
 (.ret false))
 (.ite (AW x.D1.Kind 5)
 (.ite x.QW
 (.ite (AW x.Df.Mode 0)
 (.ret (AW x.Df.Ring x.D1.Ring))
 (.ret false))
 (.ret false))
 (.ite (AW x.D1.Kind 6)
 (.ite x.QW
 (.ret (AW x.Df.Ring x.D1.Ring))
 (.ret false))
 (.ite (AW x.D1.Kind 7)
 (.ite x.QW
 (.ite (AW x.Df.Mode 2)
 (.ret (AW x.Df.Ring x.D1.Ring))
 (.ret false))
 (.ret false))
 (.ite (AW x.D1.Kind 8)
 (.ret (AW x.Df.Kind 4))
 (.ite (AW x.D1.Kind 9)
 (.ret (AW x.Df.Kind 5))
 (.ite (AW x.D1.Kind 10)
 (.ret (AW x.Df.Kind 6))
 (.ite (AW x.D1.Kind 11)
 (.ret (AW x.Df.Kind 6))
 (.ite (AW x.D1.Kind 12)
 (.ite (AW x.Df.Kind 7)
 (.ret (AW x.Df.Value x.D1.Value))
 (.ret false))
 (.ite (AW x.D1.Kind 13)
 (.ite (AW x.Df.Kind 3)
 (.ret (AW x.Df.Ring x.D1.Ring))
 (.ret false))
 (.ite (AW x.D1.Kind 14)
 (.ret (AW x.Df.Kind 8))
 (.ret (AW x.Df.Kind 9))))))))))))))))
theorem sd_f2p_2 (x : X_f2p_2) : (tt_f2p_2 x).AJ :=
 (TT.sI (TT.sI TT.sR TT.sR) (TT.sI (TT.sI (TT.sI TT.sR TT.sR) TT.sR) (TT.sI (TT.sI TT.sR TT.sR) (TT.sI (TT.sI (TT.sI TT.sR TT.sR) TT.sR) (TT.sI (TT.sI (TT.sI TT.sR TT.sR) TT.sR) (TT.sI (TT.sI TT.sR TT.sR) (TT.sI (TT.sI (TT.sI TT.sR TT.sR) TT.sR) (TT.sI TT.sR (TT.sI TT.sR (TT.sI TT.sR (TT.sI TT.sR (TT.sI (TT.sI TT.sR TT.sR) (TT.sI (TT.sI TT.sR TT.sR) (TT.sI TT.sR TT.sR))))))))))))))
def D_f2p_2 : AU X_f2p_2 R_f2p := .of tt_f2p_2
theorem ok_f2p_2 : AY J_f2p S_f2p_2 D_f2p_2 :=
 lk mxk lbn sd_f2p_2
def tt_f2p (x : X_f2p) : TT Tryz.prog R_f2p :=
 (.ite (AW x.fst.Kind 1)
 (.AM S_f2p_2 D_f2p_2 (X_f2p_2.mk x.fst x.snd true))
 (.AM S_f2p_2 D_f2p_2 (X_f2p_2.mk x.fst x.snd (AW x.fst.Kind 2))))
theorem sd_f2p (x : X_f2p) : (tt_f2p x).AJ :=
 (TT.sI TT.sJ TT.sJ)
def D_f2p : AU X_f2p R_f2p := .of tt_f2p
def con_f2p : BE Tryz.prog :=
 B2 90 J_f2p S_f2p D_f2p 2 0 [.any, .any] (lk mxk (lbc ok_f2p_2 rfl lbn) sd_f2p)
abbrev X_f40 : Type := TPg × TSt × TEv
abbrev R_f40 : Type := Int
def J_f40 : BM Tryz.prog :=
 BS Tryz.prog Tryz.f51 31 [(3, 3), (4, 3), (5, 3)] [] [] [] [.any] [] [con_f2j, con_f2p, con_f3z] R_f40 [] fun y => [(V.int .i64) y]
def S_f40 : AO :=
 Aj Tryz.f51 3 0 X_f40 (fun x => [e_TPg x.1, e_TSt x.2.1, e_TEv x.2.2]) fun l => (d_TPg (at_ l 0), d_TSt (at_ l 1), d_TEv (at_ l 2))
def tt_f40 (x : X_f40) : TT Tryz.prog R_f40 :=
 (.call con_f2j x.snd.snd fun (y1 : R_f2j) =>
 (.ite (!y1)
 (.ret 3)
 (.ite (Bw ((x.snd.fst.AB.n : Nat) : Int) x.snd.snd.Thread)
 (.ret 5)
 (.call con_f3z (x.fst, (x.snd.fst, x.snd.snd.Thread)) fun (y2 : R_f3z) =>
 (.ite (AW y2.Kind 0)
 (.ret 11)
 (.call con_f2p (y2, x.snd.snd) fun (y3 : R_f2p) =>
 (.ite (!y3)
 (.ret 11)
 (.ret 0))))))))
theorem sd_f40 (x : X_f40) : (tt_f40 x).AJ :=
 (TT.sC fun _ => (TT.sI TT.sR (TT.sI TT.sR (TT.sC fun _ => (TT.sI TT.sR (TT.sC fun _ => (TT.sI TT.sR TT.sR)))))))
def D_f40 : AU X_f40 R_f40 := .of tt_f40
def con_f40 : BE Tryz.prog :=
 B2 51 J_f40 S_f40 D_f40 3 0 [sh_TPg, sh_TSt, .any] (lk mxk lbn sd_f40)
abbrev X_f2d : Type := Int
abbrev R_f2d : Type := Int
def J_f2d : BM Tryz.prog :=
 BS Tryz.prog Tryz.f176 14 [] [] [] [] [.any] [] [] R_f2d [] fun y => [(V.int .i64) y]
def S_f2d : AO :=
 Aj Tryz.f176 1 0 X_f2d (fun x => [(V.int .i64) x]) fun l => (dI (at_ l 0))
structure X_f2d_3 where
 Ja : Int
 Rf : Int
 EA : Int
def S_f2d_3 : AO :=
 Ad Tryz.f176 3 (an [0, 3, 4]) [] [] X_f2d_3 (fun x => [(V.int .i64) x.Ja, (V.int .i64) x.Rf, (V.int .i64) x.EA]) fun l => ⟨dI (at_ l 0), dI (at_ l 1), dI (at_ l 2)⟩
def tt_f2d_3 (D_f2d_3 : AU X_f2d_3 R_f2d) (x : X_f2d_3) : TT Tryz.prog R_f2d :=
 (.ite (Bq x.EA x.Ja)
 (.AM S_f2d_3 D_f2d_3 (X_f2d_3.mk x.Ja (IntKind.i64.wrap ((2 : Int) * x.Rf)) (IntKind.i64.wrap (x.EA + 1))))
 (.ret (IntKind.i64.wrap (x.Rf - 1))))
theorem sd_f2d_3 (D_f2d_3 : AU X_f2d_3 R_f2d) (x : X_f2d_3) : (tt_f2d_3 D_f2d_3 x).AJ :=
 (TT.sI TT.sJ TT.sR)
def D_f2d_3 : AU X_f2d_3 R_f2d := AU.loop tt_f2d_3
theorem ok_f2d_3 : AY J_f2d S_f2d_3 D_f2d_3 :=
 A8 fun D_f2d_3 h_3 => lk mxk (lbc h_3 rfl lbn) (sd_f2d_3 D_f2d_3)
def tt_f2d (x : X_f2d) : TT Tryz.prog R_f2d :=
 (.AM S_f2d_3 D_f2d_3 (X_f2d_3.mk x 1 0))
theorem sd_f2d (x : X_f2d) : (tt_f2d x).AJ :=
 TT.sJ
def D_f2d : AU X_f2d R_f2d := .of tt_f2d
def con_f2d : BE Tryz.prog :=
 B2 176 J_f2d S_f2d D_f2d 1 0 [.any] (lk mxk (lbc ok_f2d_3 rfl lbn) sd_f2d)
abbrev X_f41 : Type := TR2 × Int × TSo
abbrev R_f41 : Type := TR2
def J_f41 : BM Tryz.prog :=
 BS Tryz.prog Tryz.f175 18 [(5, 3), (7, 1)] [(3, [.close (.loc 13 0), .U0 (.loc 3 0) [.CI 0 0]])] [] [.close (.loc 13 0)] [sh_TR2] [] [] R_f41 [] fun y => [e_TR2 y]
def S_f41 : AO :=
 Aj Tryz.f175 3 0 X_f41 (fun x => [e_TR2 x.1, (V.int .i64) x.2.1, e_TSo x.2.2]) fun l => (d_TR2 (at_ l 0), dI (at_ l 1), d_TSo (at_ l 2))
def tt_f41 (x : X_f41) : TT Tryz.prog R_f41 :=
 (.need (true && (room ((0 : Nat) + x.fst.L.n) 24)) <|
 (.need (A6 x.snd.fst ((0 : Nat) + x.fst.L.n)) <|
 (.need ((Nat.beq ((0 : Nat) + x.fst.L.n) ((0 : Nat) + x.fst.L.n)) && true) <|
 (.need ((true && true) && (Nat.beq ((0 : Nat) + x.fst.L.n) ((0 : Nat) + x.fst.L.n))) <|
 (.side (∀ i1 : Nat, ((i1 < ((0 : Nat) + x.fst.L.n)) → ((true && (true && (true && true))) = true))) <|
 (.ret (TR2.mk (Sl.mk (cond (Nat.beq x.fst.L.n 0) false false) ((0 : Nat) + x.fst.L.n) (fun i1 => (TSo.mk (cond (Nat.beq i1 ((0 : Nat) + (Int.toNat x.snd.fst))) x.snd.snd.AP (cond (Nat.blt i1 0) (0 : Int) (x.fst.L.get (i1 - 0)).AP)) (cond (Nat.beq i1 ((0 : Nat) + (Int.toNat x.snd.fst))) x.snd.snd.Value (cond (Nat.blt i1 0) (0 : Int) (x.fst.L.get (i1 - 0)).Value)) (cond (Nat.beq i1 ((0 : Nat) + (Int.toNat x.snd.fst))) x.snd.snd.Left (cond (Nat.blt i1 0) (0 : Int) (x.fst.L.get (i1 - 0)).Left))))) x.fst.AR)))))))
theorem sd_f41 (x : X_f41) : (tt_f41 x).AJ :=
 (TT.sN (TT.sN (TT.sN (TT.sN (TT.sS (fun _ _ => rfl) TT.sR)))))
def D_f41 : AU X_f41 R_f41 := .of tt_f41
def con_f41 : BE Tryz.prog :=
 B2 175 J_f41 S_f41 D_f41 3 0 [sh_TR2, .any, .any] (lk mxk lbn sd_f41)
abbrev X_f4c : Type := TR2 × Int × Int
abbrev R_f4c : Type := Int × TR2
def J_f4c : BM Tryz.prog :=
 BS Tryz.prog Tryz.f144 50 [(3, 3)] [] [] [] [.any, sh_TR2] [] [con_f2d, con_f41] R_f4c [] fun y => [V.Cb (V.cons ((V.int .i64) y.1) (V.cons (e_TR2 y.2) (V.unit)))]
def S_f4c : AO :=
 Aj Tryz.f144 3 0 X_f4c (fun x => [e_TR2 x.1, (V.int .u64) x.2.1, (V.int .u64) x.2.2]) fun l => (d_TR2 (at_ l 0), dI (at_ l 1), dI (at_ l 2))
def tt_f4c (x : X_f4c) : TT Tryz.prog R_f4c :=
 (.ite (Bw 4611686018427387904 x.snd.fst)
 (.ret (1, x.fst))
 (.need (!(AW (IntKind.u64.wrap ((x.fst.L.n : Nat) : Int)) 0)) <|
 (.need (A6 (IntKind.i64.wrap (Int.tmod x.snd.fst (IntKind.u64.wrap ((x.fst.L.n : Nat) : Int)))) x.fst.L.n) <|
 (.ite (Bq (x.fst.L.get (Int.toNat (IntKind.i64.wrap (Int.tmod x.snd.fst (IntKind.u64.wrap ((x.fst.L.n : Nat) : Int)))))).AP (IntKind.u64.wrap ((2 : Int) * x.snd.fst)))
 (.ret (8, x.fst))
 (.need (A6 (IntKind.i64.wrap (Int.tmod x.snd.fst (IntKind.u64.wrap ((x.fst.L.n : Nat) : Int)))) x.fst.L.n) <|
 (.ite (Bq (IntKind.u64.wrap ((2 : Int) * x.snd.fst)) (x.fst.L.get (Int.toNat (IntKind.i64.wrap (Int.tmod x.snd.fst (IntKind.u64.wrap ((x.fst.L.n : Nat) : Int)))))).AP)
 (.ret (11, x.fst))
 (.call con_f2d x.fst.AR fun (y1 : R_f2d) =>
 (.call con_f41 (x.fst, ((IntKind.i64.wrap (Int.tmod x.snd.fst (IntKind.u64.wrap ((x.fst.L.n : Nat) : Int)))), (TSo.mk (IntKind.u64.wrap ((IntKind.u64.wrap ((2 : Int) * x.snd.fst)) + 1)) x.snd.snd y1))) fun (y2 : R_f41) =>
 (.ret (0, y2))))))))))
theorem sd_f4c (x : X_f4c) : (tt_f4c x).AJ :=
 (TT.sI TT.sR (TT.sN (TT.sN (TT.sI TT.sR (TT.sN (TT.sI TT.sR (TT.sC fun _ => (TT.sC fun _ => TT.sR))))))))
def D_f4c : AU X_f4c R_f4c := .of tt_f4c
def con_f4c : BE Tryz.prog :=
 B2 144 J_f4c S_f4c D_f4c 3 0 [sh_TR2, .any, .any] (lk mxk lbn sd_f4c)
abbrev X_f33 : Type := TR3 × Int × Int
abbrev R_f33 : Type := Int × TR3
def J_f33 : BM Tryz.prog :=
 BS Tryz.prog Tryz.f93 27 [(15, 1)] [] [] [] [.any, sh_TR3] [] [con_f4c] R_f33 [] fun y => [V.Cb (V.cons ((V.int .i64) y.1) (V.cons (e_TR3 y.2) (V.unit)))]
def S_f33 : AO :=
 Aj Tryz.f93 3 0 X_f33 (fun x => [e_TR3 x.1, (V.int .u64) x.2.1, (V.int .u64) x.2.2]) fun l => (d_TR3 (at_ l 0), dI (at_ l 1), dI (at_ l 2))
def tt_f33 (x : X_f33) : TT Tryz.prog R_f33 :=
 (.ite (Bw x.fst.A0 x.snd.fst)
 (.ret (11, x.fst))
 (.call con_f4c (x.fst.S, x.snd) fun (y1 : R_f4c) =>
 (.ret (y1.fst, (TR3.mk x.fst.DP x.fst.A0 x.fst.AV x.fst.As y1.snd)))))
theorem sd_f33 (x : X_f33) : (tt_f33 x).AJ :=
 (TT.sI TT.sR (TT.sC fun _ => TT.sR))
def D_f33 : AU X_f33 R_f33 := .of tt_f33
def con_f33 : BE Tryz.prog :=
 B2 93 J_f33 S_f33 D_f33 3 0 [sh_TR3, .any, .any] (lk mxk lbn sd_f33)
abbrev X_f2i : Type := Int × Int
abbrev R_f2i : Type := Bool
def J_f2i : BM Tryz.prog :=
 BS Tryz.prog Tryz.f177 16 [] [] [] [] [.any] [] [] R_f2i [] fun y => [V.bool y]
def S_f2i : AO :=
 Aj Tryz.f177 2 0 X_f2i (fun x => [(V.int .i64) x.1, (V.int .i64) x.2]) fun l => (dI (at_ l 0), dI (at_ l 1))
structure X_f2i_2 where
 P8 : Int
 FY : Int
 D0 : Int
def S_f2i_2 : AO :=
 Ad Tryz.f177 2 (an [0, 1, 5]) [] [] X_f2i_2 (fun x => [(V.int .i64) x.P8, (V.int .i64) x.FY, (V.int .i64) x.D0]) fun l => ⟨dI (at_ l 0), dI (at_ l 1), dI (at_ l 2)⟩
def tt_f2i_2 (D_f2i_2 : AU X_f2i_2 R_f2i) (x : X_f2i_2) : TT Tryz.prog R_f2i :=
 (.ite (Bq x.D0 x.FY)
 (.AM S_f2i_2 D_f2i_2 (X_f2i_2.mk (IntKind.i64.wrap (Int.tdiv x.P8 2)) x.FY (IntKind.i64.wrap (x.D0 + 1))))
 (.ret (AW (Int.tmod x.P8 2) 1)))
theorem sd_f2i_2 (D_f2i_2 : AU X_f2i_2 R_f2i) (x : X_f2i_2) : (tt_f2i_2 D_f2i_2 x).AJ :=
 (TT.sI TT.sJ TT.sR)
def D_f2i_2 : AU X_f2i_2 R_f2i := AU.loop tt_f2i_2
theorem ok_f2i_2 : AY J_f2i S_f2i_2 D_f2i_2 :=
 A8 fun D_f2i_2 h_2 => lk mxk (lbc h_2 rfl lbn) (sd_f2i_2 D_f2i_2)
def tt_f2i (x : X_f2i) : TT Tryz.prog R_f2i :=
 (.AM S_f2i_2 D_f2i_2 (X_f2i_2.mk x.fst x.snd 0))
theorem sd_f2i (x : X_f2i) : (tt_f2i x).AJ :=
 TT.sJ
def D_f2i : AU X_f2i R_f2i := .of tt_f2i
def con_f2i : BE Tryz.prog :=
 B2 177 J_f2i S_f2i D_f2i 2 0 [.any, .any] (lk mxk (lbc ok_f2i_2 rfl lbn) sd_f2i)
abbrev X_f1d : Type := TR2 × Int × Int
abbrev R_f1d : Type := Int × Int × TR2
def J_f1d : BM Tryz.prog :=
 BS Tryz.prog Tryz.f145 83 [(3, 3)] [] [] [] [.any, .any, sh_TR2] [] [con_f2d, con_f2i, con_f41] R_f1d [] fun y => [V.Cb (V.cons ((V.int .u64) y.1) (V.cons ((V.int .i64) y.2.1) (V.cons (e_TR2 y.2.2) (V.unit))))]
def S_f1d : AO :=
 Aj Tryz.f145 3 0 X_f1d (fun x => [e_TR2 x.1, (V.int .i64) x.2.1, (V.int .u64) x.2.2]) fun l => (d_TR2 (at_ l 0), dI (at_ l 1), dI (at_ l 2))
structure X_f1d_3 where
 FY : Int
 L4 : Int
 Eh : TR2
 G0 : TR2
def S_f1d_3 : AO :=
 Ad Tryz.f145 3 (an [1, 2, 3, 8]) [] [(.loc 8 0, sh_TR2)] X_f1d_3 (fun x => [(V.int .i64) x.FY, (V.int .u64) x.L4, (Ch e_TR2) x.Eh, (V.ptr (.loc 8 0) []), e_TR2 x.G0]) fun l => ⟨dI (at_ l 0), dI (at_ l 1), (Ci d_TR2) (at_ l 2), d_TR2 (at_ l 4)⟩
structure X_f1d_9 where
 FY : Int
 L4 : Int
 Eh : TR2
 Ht : Int
 G0 : TR2
 B4 : TSo
def S_f1d_9 : AO :=
 Ad Tryz.f145 9 (an [1, 2, 3, 8, 9, 10]) [] [(.loc 8 0, sh_TR2), (.loc 10 0, .any)] X_f1d_9 (fun x => [(V.int .i64) x.FY, (V.int .u64) x.L4, (Ch e_TR2) x.Eh, (V.ptr (.loc 8 0) []), (V.int .i64) x.Ht, (V.ptr (.loc 10 0) []), e_TR2 x.G0, e_TSo x.B4]) fun l => ⟨dI (at_ l 0), dI (at_ l 1), (Ci d_TR2) (at_ l 2), dI (at_ l 4), d_TR2 (at_ l 6), d_TSo (at_ l 7)⟩
structure X_f1d_13 where
 Eh : TR2
 Ht : Int
 Vt : Int
 G0 : TR2
 B4 : TSo
def S_f1d_13 : AO :=
 Ad Tryz.f145 13 (an [3, 8, 9, 10, 11]) [] [(.loc 8 0, sh_TR2), (.loc 10 0, .any)] X_f1d_13 (fun x => [(Ch e_TR2) x.Eh, (V.ptr (.loc 8 0) []), (V.int .i64) x.Ht, (V.ptr (.loc 10 0) []), (V.int .u64) x.Vt, e_TR2 x.G0, e_TSo x.B4]) fun l => ⟨(Ci d_TR2) (at_ l 0), dI (at_ l 2), dI (at_ l 4), d_TR2 (at_ l 5), d_TSo (at_ l 6)⟩
def tt_f1d_13 (x : X_f1d_13) : TT Tryz.prog R_f1d :=
 (.call con_f41 (x.Eh, (x.Ht, x.B4)) fun (y1 : R_f41) =>
 (.ret (x.Vt, (0, y1))))
theorem sd_f1d_13 (x : X_f1d_13) : (tt_f1d_13 x).AJ :=
 (TT.sC fun _ => TT.sR)
def D_f1d_13 : AU X_f1d_13 R_f1d := .of tt_f1d_13
theorem ok_f1d_13 : AY J_f1d S_f1d_13 D_f1d_13 :=
 lk mxk lbn sd_f1d_13
def tt_f1d_9 (x : X_f1d_9) : TT Tryz.prog R_f1d :=
 (.call con_f2d x.FY fun (y1 : R_f2d) =>
 (.ite (AW (IntKind.i64.wrap (x.B4.Left - (IntKind.i64.wrap (y1 + 1)))) 0)
 (.AM S_f1d_13 D_f1d_13 (X_f1d_13.mk x.Eh x.Ht x.B4.Value x.G0 (TSo.mk (IntKind.u64.wrap ((2 : Int) * (IntKind.u64.wrap (x.L4 + (IntKind.u64.wrap ((x.Eh.L.n : Nat) : Int)))))) 0 0)))
 (.AM S_f1d_13 D_f1d_13 (X_f1d_13.mk x.Eh x.Ht x.B4.Value x.G0 (TSo.mk x.B4.AP x.B4.Value (IntKind.i64.wrap (x.B4.Left - (IntKind.i64.wrap (y1 + 1)))))))))
theorem sd_f1d_9 (x : X_f1d_9) : (tt_f1d_9 x).AJ :=
 (TT.sC fun _ => (TT.sI TT.sJ TT.sJ))
def D_f1d_9 : AU X_f1d_9 R_f1d := .of tt_f1d_9
theorem ok_f1d_9 : AY J_f1d S_f1d_9 D_f1d_9 :=
 lk mxk (lbc ok_f1d_13 rfl lbn) sd_f1d_9
def tt_f1d_3 (x : X_f1d_3) : TT Tryz.prog R_f1d :=
 (.need (!(AW (IntKind.u64.wrap ((x.Eh.L.n : Nat) : Int)) 0)) <|
 (.need (A6 (IntKind.i64.wrap (Int.tmod x.L4 (IntKind.u64.wrap ((x.Eh.L.n : Nat) : Int)))) x.Eh.L.n) <|
 (.ite (Bq (x.Eh.L.get (Int.toNat (IntKind.i64.wrap (Int.tmod x.L4 (IntKind.u64.wrap ((x.Eh.L.n : Nat) : Int)))))).AP (IntKind.u64.wrap ((IntKind.u64.wrap ((2 : Int) * x.L4)) + 1)))
 (.ret (0, (9, x.Eh)))
 (.ite (Bq (IntKind.u64.wrap ((IntKind.u64.wrap ((2 : Int) * x.L4)) + 1)) (x.Eh.L.get (Int.toNat (IntKind.i64.wrap (Int.tmod x.L4 (IntKind.u64.wrap ((x.Eh.L.n : Nat) : Int)))))).AP)
 (.ret (0, (11, x.Eh)))
 (.call con_f2i ((x.Eh.L.get (Int.toNat (IntKind.i64.wrap (Int.tmod x.L4 (IntKind.u64.wrap ((x.Eh.L.n : Nat) : Int)))))).Left, x.FY) fun (y1 : R_f2i) =>
 (.ite (!y1)
 (.ret (0, (11, x.Eh)))
 (.AM S_f1d_9 D_f1d_9 (X_f1d_9.mk x.FY x.L4 x.Eh (IntKind.i64.wrap (Int.tmod x.L4 (IntKind.u64.wrap ((x.Eh.L.n : Nat) : Int)))) x.G0 (x.Eh.L.get (Int.toNat (IntKind.i64.wrap (Int.tmod x.L4 (IntKind.u64.wrap ((x.Eh.L.n : Nat) : Int))))))))))))))
theorem sd_f1d_3 (x : X_f1d_3) : (tt_f1d_3 x).AJ :=
 (TT.sN (TT.sN (TT.sI TT.sR (TT.sI TT.sR (TT.sC fun _ => (TT.sI TT.sR TT.sJ))))))
def D_f1d_3 : AU X_f1d_3 R_f1d := .of tt_f1d_3
theorem ok_f1d_3 : AY J_f1d S_f1d_3 D_f1d_3 :=
 lk mxk (lbc ok_f1d_13 rfl (lbc ok_f1d_9 rfl lbn)) sd_f1d_3
def tt_f1d (x : X_f1d) : TT Tryz.prog R_f1d :=
 (.ite (Bw 4611686018427387904 x.snd.snd)
 (.ret (0, (1, x.fst)))
 (.ite (Bq x.snd.fst 0)
 (.ret (0, (1, x.fst)))
 (.ite (Bw x.fst.AR x.snd.fst)
 (.ret (0, (1, x.fst)))
 (.AM S_f1d_3 D_f1d_3 (X_f1d_3.mk x.snd.fst x.snd.snd x.fst (TR2.mk (Sl.mk true 0 (fun _i1 => (TSo.mk 0 0 0))) 0))))))
theorem sd_f1d (x : X_f1d) : (tt_f1d x).AJ :=
 (TT.sI TT.sR (TT.sI TT.sR (TT.sI TT.sR TT.sJ)))
def D_f1d : AU X_f1d R_f1d := .of tt_f1d
def con_f1d : BE Tryz.prog :=
 B2 145 J_f1d S_f1d D_f1d 3 0 [sh_TR2, .any, .any] (lk mxk (lbc ok_f1d_13 rfl (lbc ok_f1d_9 rfl (lbc ok_f1d_3 rfl lbn))) sd_f1d)
abbrev X_f1p : Type := TR3 × Int × Int
abbrev R_f1p : Type := Int × Int × TR3
def J_f1p : BM Tryz.prog :=
 BS Tryz.prog Tryz.f95 44 [(30, 1)] [] [] [] [.any, .any, sh_TR3] [] [con_f1d] R_f1p [] fun y => [V.Cb (V.cons ((V.int .u64) y.1) (V.cons ((V.int .i64) y.2.1) (V.cons (e_TR3 y.2.2) (V.unit))))]
def S_f1p : AO :=
 Aj Tryz.f95 3 0 X_f1p (fun x => [e_TR3 x.1, (V.int .i64) x.2.1, (V.int .u64) x.2.2]) fun l => (d_TR3 (at_ l 0), dI (at_ l 1), dI (at_ l 2))
structure X_f1p_3 where
 FY : Int
 L4 : Int
 BC : TR3
 G0 : TR3
def S_f1p_3 : AO :=
 Ad Tryz.f95 3 (an [1, 2, 3, 8]) [] [(.loc 3 0, sh_TR3), (.loc 8 0, sh_TR3)] X_f1p_3 (fun x => [(V.int .i64) x.FY, (V.int .u64) x.L4, (V.ptr (.loc 3 0) []), (V.ptr (.loc 8 0) []), e_TR3 x.BC, e_TR3 x.G0]) fun l => ⟨dI (at_ l 0), dI (at_ l 1), d_TR3 (at_ l 4), d_TR3 (at_ l 5)⟩
def tt_f1p_3 (x : X_f1p_3) : TT Tryz.prog R_f1p :=
 (.need (A6 x.FY x.BC.AV.n) <|
 (.ite (Bw (x.BC.AV.get (Int.toNat x.FY)) x.L4)
 (.ret (0, (11, x.BC)))
 (.call con_f1d (x.BC.S, (x.FY, x.L4)) fun (y1 : R_f1d) =>
 (.ret (y1.fst, (y1.snd.fst, (TR3.mk x.BC.DP x.BC.A0 x.BC.AV x.BC.As y1.snd.snd)))))))
theorem sd_f1p_3 (x : X_f1p_3) : (tt_f1p_3 x).AJ :=
 (TT.sN (TT.sI TT.sR (TT.sC fun _ => TT.sR)))
def D_f1p_3 : AU X_f1p_3 R_f1p := .of tt_f1p_3
theorem ok_f1p_3 : AY J_f1p S_f1p_3 D_f1p_3 :=
 lk mxk lbn sd_f1p_3
def tt_f1p (x : X_f1p) : TT Tryz.prog R_f1p :=
 (.ite (Bq x.snd.fst 0)
 (.ret (0, (1, x.fst)))
 (.ite (Bw ((x.fst.AV.n : Nat) : Int) x.snd.fst)
 (.ret (0, (1, x.fst)))
 (.AM S_f1p_3 D_f1p_3 (X_f1p_3.mk x.snd.fst x.snd.snd x.fst (TR3.mk 0 0 (Sl.mk true 0 (fun _i1 => (0 : Int))) false (TR2.mk (Sl.mk true 0 (fun _i1 => (TSo.mk 0 0 0))) 0))))))
theorem sd_f1p (x : X_f1p) : (tt_f1p x).AJ :=
 (TT.sI TT.sR (TT.sI TT.sR TT.sJ))
def D_f1p : AU X_f1p R_f1p := .of tt_f1p
def con_f1p : BE Tryz.prog :=
 B2 95 J_f1p S_f1p D_f1p 3 0 [sh_TR3, .any, .any] (lk mxk (lbc ok_f1p_3 rfl lbn) sd_f1p)
abbrev X_f3n : Type := TPg × TSt × TA6 × TEv × Bool
abbrev R_f3n : Type := Bool
def J_f3n : BM Tryz.prog :=
 BS Tryz.prog Tryz.f91 92 [(5, 3), (6, 3), (7, 3), (8, 3), (46, 1), (75, 1)] [] [] [] [.any] [] [con_f3m, con_f33, con_f1p, con_f37, con_f3g] R_f3n [] fun y => [V.bool y]
def S_f3n : AO :=
 Aj Tryz.f91 5 0 X_f3n (fun x => [e_TPg x.1, e_TSt x.2.1, e_TA6 x.2.2.1, e_TEv x.2.2.2.1, V.bool x.2.2.2.2]) fun l => (d_TPg (at_ l 0), d_TSt (at_ l 1), d_TA6 (at_ l 2), d_TEv (at_ l 3), dB (at_ l 4))
def tt_f3n (x : X_f3n) : TT Tryz.prog R_f3n :=
 (.call con_f3g (x.fst, (x.snd.fst, x.snd.snd.snd.fst.Ring)) fun (y1 : R_f3g) =>
 (.ite (AW x.snd.snd.snd.fst.Kind 1)
 (.ite x.snd.snd.snd.snd
 (.ite (!y1.As)
 (.call con_f3m y1 fun (y2 : R_f3m) =>
 (.ite (!y2)
 (.ret (AW x.snd.snd.snd.fst.AG y1.A0))
 (.ret false)))
 (.ret false))
 (.call con_f3m y1 fun (y2 : R_f3m) =>
 (.ite (!y2)
 (.ret (AW x.snd.snd.snd.fst.AG y1.A0))
 (.ret false))))
 (.ite (AW x.snd.snd.snd.fst.Kind 2)
 (.call con_f33 (y1, (x.snd.snd.snd.fst.AG, 0)) fun (y2 : R_f33) =>
 (.ret (AW y2.fst 0)))
 (.ite (AW x.snd.snd.snd.fst.Kind 3)
 (.call con_f37 (y1, x.snd.snd.fst.Reader) fun (y2 : R_f37) =>
 (.ite (!y2)
 (.need (A6 x.snd.snd.fst.Reader y1.AV.n) <|
 (.ret (AW x.snd.snd.snd.fst.AG (y1.AV.get (Int.toNat x.snd.snd.fst.Reader)))))
 (.ret false)))
 (.ite (AW x.snd.snd.snd.fst.Kind 4)
 (.call con_f1p (y1, (x.snd.snd.fst.Reader, x.snd.snd.snd.fst.AG)) fun (y2 : R_f1p) =>
 (.ret (AW y2.snd.fst 0)))
 (.ret (AW x.snd.snd.snd.fst.AG y1.A0)))))))
theorem sd_f3n (x : X_f3n) : (tt_f3n x).AJ :=
 (TT.sC fun _ => (TT.sI (TT.sI (TT.sI (TT.sC fun _ => (TT.sI TT.sR TT.sR)) TT.sR) (TT.sC fun _ => (TT.sI TT.sR TT.sR))) (TT.sI (TT.sC fun _ => TT.sR) (TT.sI (TT.sC fun _ => (TT.sI (TT.sN TT.sR) TT.sR)) (TT.sI (TT.sC fun _ => TT.sR) TT.sR)))))
def D_f3n : AU X_f3n R_f3n := .of tt_f3n
def con_f3n : BE Tryz.prog :=
 B2 91 J_f3n S_f3n D_f3n 5 0 [sh_TPg, sh_TSt, .any, .any, .any] (lk mxk lbn sd_f3n)
abbrev X_f12 : Type := TPg × TSt × TA6 × TEv
abbrev R_f12 : Type := Bool
def J_f12 : BM Tryz.prog :=
 BS Tryz.prog Tryz.f92 47 [(4, 3), (5, 3), (6, 3), (7, 3)] [] [] [] [.any] [] [con_f3m, con_f37, con_f3g] R_f12 [] fun y => [V.bool y]
def S_f12 : AO :=
 Aj Tryz.f92 4 0 X_f12 (fun x => [e_TPg x.1, e_TSt x.2.1, e_TA6 x.2.2.1, e_TEv x.2.2.2]) fun l => (d_TPg (at_ l 0), d_TSt (at_ l 1), d_TA6 (at_ l 2), d_TEv (at_ l 3))
structure X_f12_3 where
 PV : TEv
 Qi : Bool
 Wu : TR3
def S_f12_3 : AO :=
 Ad Tryz.f92 3 (an [7, 9, 10]) [] [(.loc 9 0, sh_TR3)] X_f12_3 (fun x => [(Ch e_TEv) x.PV, (V.ptr (.loc 9 0) []), V.bool x.Qi, e_TR3 x.Wu]) fun l => ⟨(Ci d_TEv) (at_ l 0), dB (at_ l 2), d_TR3 (at_ l 3)⟩
def tt_f12_3 (x : X_f12_3) : TT Tryz.prog R_f12 :=
 (.ite x.Qi
 (.ret (x.Wu.As == (AW x.PV.Kind 6)))
 (.ret false))
theorem sd_f12_3 (x : X_f12_3) : (tt_f12_3 x).AJ :=
 (TT.sI TT.sR TT.sR)
def D_f12_3 : AU X_f12_3 R_f12 := .of tt_f12_3
theorem ok_f12_3 : AY J_f12 S_f12_3 D_f12_3 :=
 lk mxk lbn sd_f12_3
def tt_f12 (x : X_f12) : TT Tryz.prog R_f12 :=
 (.call con_f3g (x.fst, (x.snd.fst, x.snd.snd.snd.Ring)) fun (y1 : R_f3g) =>
 (.ite (AW x.snd.snd.fst.Kind 1)
 (.ite y1.As
 (.AM S_f12_3 D_f12_3 (X_f12_3.mk x.snd.snd.snd true y1))
 (.call con_f3m y1 fun (y2 : R_f3m) =>
 (.ite y2
 (.AM S_f12_3 D_f12_3 (X_f12_3.mk x.snd.snd.snd true y1))
 (.ite (AW x.snd.snd.fst.Kind 2)
 (.call con_f37 (y1, x.snd.snd.fst.Reader) fun (y3 : R_f37) =>
 (.AM S_f12_3 D_f12_3 (X_f12_3.mk x.snd.snd.snd y3 y1)))
 (.AM S_f12_3 D_f12_3 (X_f12_3.mk x.snd.snd.snd false y1))))))
 (.ite (AW x.snd.snd.fst.Kind 2)
 (.call con_f37 (y1, x.snd.snd.fst.Reader) fun (y2 : R_f37) =>
 (.AM S_f12_3 D_f12_3 (X_f12_3.mk x.snd.snd.snd y2 y1)))
 (.AM S_f12_3 D_f12_3 (X_f12_3.mk x.snd.snd.snd false y1)))))
theorem sd_f12 (x : X_f12) : (tt_f12 x).AJ :=
 (TT.sC fun _ => (TT.sI (TT.sI TT.sJ (TT.sC fun _ => (TT.sI TT.sJ (TT.sI (TT.sC fun _ => TT.sJ) TT.sJ)))) (TT.sI (TT.sC fun _ => TT.sJ) TT.sJ)))
def D_f12 : AU X_f12 R_f12 := .of tt_f12
def con_f12 : BE Tryz.prog :=
 B2 92 J_f12 S_f12 D_f12 4 0 [sh_TPg, sh_TSt, .any, .any] (lk mxk (lbc ok_f12_3 rfl lbn) sd_f12)
abbrev X_f34 : Type := TPg × TSt × TEv
abbrev R_f34 : Type := Bool
def J_f34 : BM Tryz.prog :=
 BS Tryz.prog Tryz.f52 60 [(3, 3), (4, 3), (5, 3)] [] [] [] [.any] [] [con_f3z, con_f40, con_f12, con_f3n] R_f34 [] fun y => [V.bool y]
def S_f34 : AO :=
 Aj Tryz.f52 3 0 X_f34 (fun x => [e_TPg x.1, e_TSt x.2.1, e_TEv x.2.2]) fun l => (d_TPg (at_ l 0), d_TSt (at_ l 1), d_TEv (at_ l 2))
def tt_f34 (x : X_f34) : TT Tryz.prog R_f34 :=
 (.call con_f40 (x.fst, (x.snd.fst, x.snd.snd)) fun (y1 : R_f40) =>
 (.ite (!(AW y1 0))
 (.ret false)
 (.call con_f3z (x.fst, (x.snd.fst, x.snd.snd.Thread)) fun (y2 : R_f3z) =>
 (.ite (AW x.snd.snd.Kind 1)
 (.call con_f3n (x.fst, (x.snd.fst, (y2, (x.snd.snd, true)))) fun (y3 : R_f3n) =>
 (.ret y3))
 (.ite (AW x.snd.snd.Kind 2)
 (.call con_f3n (x.fst, (x.snd.fst, (y2, (x.snd.snd, true)))) fun (y3 : R_f3n) =>
 (.ret y3))
 (.ite (AW x.snd.snd.Kind 3)
 (.call con_f3n (x.fst, (x.snd.fst, (y2, (x.snd.snd, true)))) fun (y3 : R_f3n) =>
 (.ret y3))
 (.ite (AW x.snd.snd.Kind 4)
 (.call con_f3n (x.fst, (x.snd.fst, (y2, (x.snd.snd, true)))) fun (y3 : R_f3n) =>
 (.ret y3))
 (.ite (AW x.snd.snd.Kind 13)
 (.call con_f3n (x.fst, (x.snd.fst, (y2, (x.snd.snd, true)))) fun (y3 : R_f3n) =>
 (.ret y3))
 (.ite (AW x.snd.snd.Kind 5)
 (.call con_f12 (x.fst, (x.snd.fst, (y2, x.snd.snd))) fun (y3 : R_f12) =>
 (.ret y3))
 (.ite (AW x.snd.snd.Kind 6)
 (.call con_f12 (x.fst, (x.snd.fst, (y2, x.snd.snd))) fun (y3 : R_f12) =>
 (.ret y3))
 (.ite (AW x.snd.snd.Kind 7)
 (.call con_f12 (x.fst, (x.snd.fst, (y2, x.snd.snd))) fun (y3 : R_f12) =>
 (.ret y3))
 (.ite (AW x.snd.snd.Kind 8)
 (.ite (Bw x.snd.fst.Ec x.snd.snd.Value)
 (.ret (Bq (IntKind.u64.wrap (x.snd.snd.Value - x.snd.fst.Ec)) 1048576))
 (.ret false))
 (.ite (AW x.snd.snd.Kind 10)
 (.ret (!x.snd.fst.BO))
 (.ret true))))))))))))))
theorem sd_f34 (x : X_f34) : (tt_f34 x).AJ :=
 (TT.sC fun _ => (TT.sI TT.sR (TT.sC fun _ => (TT.sI (TT.sC fun _ => TT.sR) (TT.sI (TT.sC fun _ => TT.sR) (TT.sI (TT.sC fun _ => TT.sR) (TT.sI (TT.sC fun _ => TT.sR) (TT.sI (TT.sC fun _ => TT.sR) (TT.sI (TT.sC fun _ => TT.sR) (TT.sI (TT.sC fun _ => TT.sR) (TT.sI (TT.sC fun _ => TT.sR) (TT.sI (TT.sI TT.sR TT.sR) (TT.sI TT.sR TT.sR)))))))))))))
def D_f34 : AU X_f34 R_f34 := .of tt_f34
def con_f34 : BE Tryz.prog :=
 B2 52 J_f34 S_f34 D_f34 3 0 [sh_TPg, sh_TSt, .any] (lk mxk lbn sd_f34)
abbrev X_f6 : Type := TPg × TSt × Int × Int × Bool × Bool
abbrev R_f6 : Type := TEv × Bool
def J_f6 : BM Tryz.prog :=
 BS Tryz.prog Tryz.f50 172 [(6, 3), (7, 3)] [] [] [] [.any, .any] [] [con_f3m, con_f34, con_f3z, con_f37, con_f3g] R_f6 [] fun y => [V.Cb (V.cons (e_TEv y.1) (V.cons (V.bool y.2) (V.unit)))]
def S_f6 : AO :=
 Aj Tryz.f50 6 0 X_f6 (fun x => [e_TPg x.1, e_TSt x.2.1, (V.int .i64) x.2.2.1, (V.int .u64) x.2.2.2.1, V.bool x.2.2.2.2.1, V.bool x.2.2.2.2.2]) fun l => (d_TPg (at_ l 0), d_TSt (at_ l 1), dI (at_ l 2), dI (at_ l 3), dB (at_ l 4), dB (at_ l 5))
structure X_f6_8 where
 Dc : Bool
 IJ : TPg
 IG : TSt
 Ek : TEv
 D7 : TA6
 C1 : TEv
def S_f6_8 : AO :=
 Ad Tryz.f50 8 (an [5, 6, 7, 12, 14, 15]) [] [(.loc 12 0, .any), (.loc 14 0, .any), (.loc 15 0, .any)] X_f6_8 (fun x => [V.bool x.Dc, (Ch e_TPg) x.IJ, (Ch e_TSt) x.IG, (V.ptr (.loc 12 0) []), (V.ptr (.loc 14 0) []), (V.ptr (.loc 15 0) []), e_TEv x.Ek, e_TA6 x.D7, e_TEv x.C1]) fun l => ⟨dB (at_ l 0), (Ci d_TPg) (at_ l 1), (Ci d_TSt) (at_ l 2), d_TEv (at_ l 6), d_TA6 (at_ l 7), d_TEv (at_ l 8)⟩
structure X_f6_12 where
 Dc : Bool
 IJ : TPg
 IG : TSt
 DK : Bool
 Ek : TEv
 D7 : TA6
 C1 : TEv
 DT : TR3
def S_f6_12 : AO :=
 Ad Tryz.f50 12 (an [5, 6, 7, 12, 14, 15, 16, 17]) [] [(.loc 12 0, .any), (.loc 14 0, .any), (.loc 15 0, .any), (.loc 16 0, sh_TR3)] X_f6_12 (fun x => [V.bool x.Dc, (Ch e_TPg) x.IJ, (Ch e_TSt) x.IG, (V.ptr (.loc 12 0) []), (V.ptr (.loc 14 0) []), (V.ptr (.loc 15 0) []), (V.ptr (.loc 16 0) []), V.bool x.DK, e_TEv x.Ek, e_TA6 x.D7, e_TEv x.C1, e_TR3 x.DT]) fun l => ⟨dB (at_ l 0), (Ci d_TPg) (at_ l 1), (Ci d_TSt) (at_ l 2), dB (at_ l 7), d_TEv (at_ l 8), d_TA6 (at_ l 9), d_TEv (at_ l 10), d_TR3 (at_ l 11)⟩
structure X_f6_14 where
 Dc : Bool
 IJ : TPg
 IG : TSt
 DK : Bool
 Ek : TEv
 D7 : TA6
 C1 : TEv
 DT : TR3
def S_f6_14 : AO :=
 Ad Tryz.f50 14 (an [5, 6, 7, 12, 14, 15, 16, 17]) [] [(.loc 12 0, .any), (.loc 14 0, .any), (.loc 15 0, .any), (.loc 16 0, sh_TR3)] X_f6_14 (fun x => [V.bool x.Dc, (Ch e_TPg) x.IJ, (Ch e_TSt) x.IG, (V.ptr (.loc 12 0) []), (V.ptr (.loc 14 0) []), (V.ptr (.loc 15 0) []), (V.ptr (.loc 16 0) []), V.bool x.DK, e_TEv x.Ek, e_TA6 x.D7, e_TEv x.C1, e_TR3 x.DT]) fun l => ⟨dB (at_ l 0), (Ci d_TPg) (at_ l 1), (Ci d_TSt) (at_ l 2), dB (at_ l 7), d_TEv (at_ l 8), d_TA6 (at_ l 9), d_TEv (at_ l 10), d_TR3 (at_ l 11)⟩
structure X_f6_16 where
 Dc : Bool
 IJ : TPg
 IG : TSt
 DK : Bool
 Ek : TEv
 D7 : TA6
 C1 : TEv
 DT : TR3
def S_f6_16 : AO :=
 Ad Tryz.f50 16 (an [5, 6, 7, 12, 14, 15, 16, 17]) [] [(.loc 12 0, .any), (.loc 14 0, .any), (.loc 15 0, .any), (.loc 16 0, sh_TR3)] X_f6_16 (fun x => [V.bool x.Dc, (Ch e_TPg) x.IJ, (Ch e_TSt) x.IG, (V.ptr (.loc 12 0) []), (V.ptr (.loc 14 0) []), (V.ptr (.loc 15 0) []), (V.ptr (.loc 16 0) []), V.bool x.DK, e_TEv x.Ek, e_TA6 x.D7, e_TEv x.C1, e_TR3 x.DT]) fun l => ⟨dB (at_ l 0), (Ci d_TPg) (at_ l 1), (Ci d_TSt) (at_ l 2), dB (at_ l 7), d_TEv (at_ l 8), d_TA6 (at_ l 9), d_TEv (at_ l 10), d_TR3 (at_ l 11)⟩
structure X_f6_20 where
 IJ : TPg
 IG : TSt
 Ek : TEv
 D7 : TA6
 C1 : TEv
 DT : TR3
def S_f6_20 : AO :=
 Ad Tryz.f50 20 (an [6, 7, 12, 14, 15, 16]) [] [(.loc 12 0, .any), (.loc 14 0, .any), (.loc 15 0, .any), (.loc 16 0, sh_TR3)] X_f6_20 (fun x => [(Ch e_TPg) x.IJ, (Ch e_TSt) x.IG, (V.ptr (.loc 12 0) []), (V.ptr (.loc 14 0) []), (V.ptr (.loc 15 0) []), (V.ptr (.loc 16 0) []), e_TEv x.Ek, e_TA6 x.D7, e_TEv x.C1, e_TR3 x.DT]) fun l => ⟨(Ci d_TPg) (at_ l 0), (Ci d_TSt) (at_ l 1), d_TEv (at_ l 6), d_TA6 (at_ l 7), d_TEv (at_ l 8), d_TR3 (at_ l 9)⟩
structure X_f6_46 where
 IJ : TPg
 IG : TSt
 Ek : TEv
 C1 : TEv
def S_f6_46 : AO :=
 Ad Tryz.f50 46 (an [6, 7, 12, 15]) [] [(.loc 12 0, .any), (.loc 15 0, .any)] X_f6_46 (fun x => [(Ch e_TPg) x.IJ, (Ch e_TSt) x.IG, (V.ptr (.loc 12 0) []), (V.ptr (.loc 15 0) []), e_TEv x.Ek, e_TEv x.C1]) fun l => ⟨(Ci d_TPg) (at_ l 0), (Ci d_TSt) (at_ l 1), d_TEv (at_ l 4), d_TEv (at_ l 5)⟩
def tt_f6_46 (x : X_f6_46) : TT Tryz.prog R_f6 :=
 (.call con_f34 (x.IJ, (x.IG, x.C1)) fun (y1 : R_f34) =>
 (.ret (x.C1, y1)))
theorem sd_f6_46 (x : X_f6_46) : (tt_f6_46 x).AJ :=
 (TT.sC fun _ => TT.sR)
def D_f6_46 : AU X_f6_46 R_f6 := .of tt_f6_46
theorem ok_f6_46 : AY J_f6 S_f6_46 D_f6_46 :=
 lk mxk lbn sd_f6_46
def tt_f6_20 (x : X_f6_20) : TT Tryz.prog R_f6 :=
 (.ite (AW x.D7.Kind 1)
 (.AM S_f6_46 D_f6_46 (X_f6_46.mk x.IJ x.IG x.Ek (TEv.mk x.C1.Thread 1 x.C1.Ring x.DT.A0 x.C1.Value)))
 (.need (A6 x.D7.Reader x.DT.AV.n) <|
 (.AM S_f6_46 D_f6_46 (X_f6_46.mk x.IJ x.IG x.Ek (TEv.mk x.C1.Thread 3 x.C1.Ring (x.DT.AV.get (Int.toNat x.D7.Reader)) x.C1.Value)))))
theorem sd_f6_20 (x : X_f6_20) : (tt_f6_20 x).AJ :=
 (TT.sI TT.sJ (TT.sN TT.sJ))
def D_f6_20 : AU X_f6_20 R_f6 := .of tt_f6_20
theorem ok_f6_20 : AY J_f6 S_f6_20 D_f6_20 :=
 lk mxk (lbc ok_f6_46 rfl lbn) sd_f6_20
def tt_f6_16 (x : X_f6_16) : TT Tryz.prog R_f6 :=
 (.ite x.DK
 (.ite (AW x.D7.Mode 2)
 (.ite x.Dc
 (.AM S_f6_46 D_f6_46 (X_f6_46.mk x.IJ x.IG x.Ek (TEv.mk x.C1.Thread 7 x.C1.Ring x.C1.AG x.C1.Value)))
 (.ite x.DK
 (.ret ((TEv.mk 0 0 0 0 0), false))
 (.AM S_f6_20 D_f6_20 (X_f6_20.mk x.IJ x.IG x.Ek x.D7 x.C1 x.DT))))
 (.ite x.DK
 (.ret ((TEv.mk 0 0 0 0 0), false))
 (.AM S_f6_20 D_f6_20 (X_f6_20.mk x.IJ x.IG x.Ek x.D7 x.C1 x.DT))))
 (.ite x.DK
 (.ret ((TEv.mk 0 0 0 0 0), false))
 (.AM S_f6_20 D_f6_20 (X_f6_20.mk x.IJ x.IG x.Ek x.D7 x.C1 x.DT))))
theorem sd_f6_16 (x : X_f6_16) : (tt_f6_16 x).AJ :=
 (TT.sI (TT.sI (TT.sI TT.sJ (TT.sI TT.sR TT.sJ)) (TT.sI TT.sR TT.sJ)) (TT.sI TT.sR TT.sJ))
def D_f6_16 : AU X_f6_16 R_f6 := .of tt_f6_16
theorem ok_f6_16 : AY J_f6 S_f6_16 D_f6_16 :=
 lk mxk (lbc ok_f6_46 rfl (lbc ok_f6_20 rfl lbn)) sd_f6_16
def tt_f6_14 (x : X_f6_14) : TT Tryz.prog R_f6 :=
 (.ite x.DK
 (.ite (AW x.D7.Mode 0)
 (.AM S_f6_46 D_f6_46 (X_f6_46.mk x.IJ x.IG x.Ek (TEv.mk x.C1.Thread 5 x.C1.Ring x.C1.AG x.C1.Value)))
 (.AM S_f6_16 D_f6_16 (X_f6_16.mk x.Dc x.IJ x.IG x.DK x.Ek x.D7 x.C1 x.DT)))
 (.AM S_f6_16 D_f6_16 (X_f6_16.mk x.Dc x.IJ x.IG x.DK x.Ek x.D7 x.C1 x.DT)))
theorem sd_f6_14 (x : X_f6_14) : (tt_f6_14 x).AJ :=
 (TT.sI (TT.sI TT.sJ TT.sJ) TT.sJ)
def D_f6_14 : AU X_f6_14 R_f6 := .of tt_f6_14
theorem ok_f6_14 : AY J_f6 S_f6_14 D_f6_14 :=
 lk mxk (lbc ok_f6_46 rfl (lbc ok_f6_20 rfl (lbc ok_f6_16 rfl lbn))) sd_f6_14
def tt_f6_12 (x : X_f6_12) : TT Tryz.prog R_f6 :=
 (.ite x.DK
 (.ite x.DT.As
 (.AM S_f6_46 D_f6_46 (X_f6_46.mk x.IJ x.IG x.Ek (TEv.mk x.C1.Thread 6 x.C1.Ring x.C1.AG x.C1.Value)))
 (.AM S_f6_14 D_f6_14 (X_f6_14.mk x.Dc x.IJ x.IG x.DK x.Ek x.D7 x.C1 x.DT)))
 (.AM S_f6_14 D_f6_14 (X_f6_14.mk x.Dc x.IJ x.IG x.DK x.Ek x.D7 x.C1 x.DT)))
theorem sd_f6_12 (x : X_f6_12) : (tt_f6_12 x).AJ :=
 (TT.sI (TT.sI TT.sJ TT.sJ) TT.sJ)
def D_f6_12 : AU X_f6_12 R_f6 := .of tt_f6_12
theorem ok_f6_12 : AY J_f6 S_f6_12 D_f6_12 :=
 lk mxk (lbc ok_f6_46 rfl (lbc ok_f6_20 rfl (lbc ok_f6_16 rfl (lbc ok_f6_14 rfl lbn)))) sd_f6_12
def tt_f6_8 (x : X_f6_8) : TT Tryz.prog R_f6 :=
 (.call con_f3g (x.IJ, (x.IG, x.D7.Ring)) fun (y1 : R_f3g) =>
 (.ite (AW x.D7.Kind 1)
 (.ite y1.As
 (.AM S_f6_12 D_f6_12 (X_f6_12.mk x.Dc x.IJ x.IG true x.Ek x.D7 x.C1 y1))
 (.call con_f3m y1 fun (y2 : R_f3m) =>
 (.ite y2
 (.AM S_f6_12 D_f6_12 (X_f6_12.mk x.Dc x.IJ x.IG true x.Ek x.D7 x.C1 y1))
 (.ite (AW x.D7.Kind 2)
 (.call con_f37 (y1, x.D7.Reader) fun (y3 : R_f37) =>
 (.AM S_f6_12 D_f6_12 (X_f6_12.mk x.Dc x.IJ x.IG y3 x.Ek x.D7 x.C1 y1)))
 (.AM S_f6_12 D_f6_12 (X_f6_12.mk x.Dc x.IJ x.IG false x.Ek x.D7 x.C1 y1))))))
 (.ite (AW x.D7.Kind 2)
 (.call con_f37 (y1, x.D7.Reader) fun (y2 : R_f37) =>
 (.AM S_f6_12 D_f6_12 (X_f6_12.mk x.Dc x.IJ x.IG y2 x.Ek x.D7 x.C1 y1)))
 (.AM S_f6_12 D_f6_12 (X_f6_12.mk x.Dc x.IJ x.IG false x.Ek x.D7 x.C1 y1)))))
theorem sd_f6_8 (x : X_f6_8) : (tt_f6_8 x).AJ :=
 (TT.sC fun _ => (TT.sI (TT.sI TT.sJ (TT.sC fun _ => (TT.sI TT.sJ (TT.sI (TT.sC fun _ => TT.sJ) TT.sJ)))) (TT.sI (TT.sC fun _ => TT.sJ) TT.sJ)))
def D_f6_8 : AU X_f6_8 R_f6 := .of tt_f6_8
theorem ok_f6_8 : AY J_f6 S_f6_8 D_f6_8 :=
 lk mxk (lbc ok_f6_46 rfl (lbc ok_f6_20 rfl (lbc ok_f6_16 rfl (lbc ok_f6_14 rfl (lbc ok_f6_12 rfl lbn))))) sd_f6_8
def tt_f6 (x : X_f6) : TT Tryz.prog R_f6 :=
 (.call con_f3z (x.fst, (x.snd.fst, x.snd.snd.fst)) fun (y1 : R_f3z) =>
 (.ite (AW y1.Kind 0)
 (.ret ((TEv.mk 0 0 0 0 0), false))
 (.ite (AW y1.Kind 1)
 (.AM S_f6_8 D_f6_8 (X_f6_8.mk x.snd.snd.snd.snd.snd x.fst x.snd.fst (TEv.mk 0 0 0 0 0) y1 (TEv.mk x.snd.snd.fst 0 y1.Ring 0 0)))
 (.ite (AW y1.Kind 2)
 (.AM S_f6_8 D_f6_8 (X_f6_8.mk x.snd.snd.snd.snd.snd x.fst x.snd.fst (TEv.mk 0 0 0 0 0) y1 (TEv.mk x.snd.snd.fst 0 y1.Ring 0 0)))
 (.ite (AW y1.Kind 3)
 (.need (A6 y1.Ring x.snd.fst.AF.n) <|
 (.AM S_f6_46 D_f6_46 (X_f6_46.mk x.fst x.snd.fst (TEv.mk 0 0 0 0 0) (TEv.mk x.snd.snd.fst 13 y1.Ring (x.snd.fst.AF.get (Int.toNat y1.Ring)).A0 0))))
 (.ite (AW y1.Kind 4)
 (.AM S_f6_46 D_f6_46 (X_f6_46.mk x.fst x.snd.fst (TEv.mk 0 0 0 0 0) (TEv.mk x.snd.snd.fst 8 0 0 (IntKind.u64.wrap (x.snd.fst.Ec + (Int.tmod x.snd.snd.snd.fst 1048576))))))
 (.ite (AW y1.Kind 5)
 (.AM S_f6_46 D_f6_46 (X_f6_46.mk x.fst x.snd.fst (TEv.mk 0 0 0 0 0) (TEv.mk x.snd.snd.fst 9 y1.Ring 0 x.snd.snd.snd.fst)))
 (.ite (AW y1.Kind 6)
 (.ite x.snd.snd.snd.snd.fst
 (.AM S_f6_46 D_f6_46 (X_f6_46.mk x.fst x.snd.fst (TEv.mk 0 0 0 0 0) (TEv.mk x.snd.snd.fst 11 0 0 0)))
 (.ite x.snd.fst.BO
 (.AM S_f6_46 D_f6_46 (X_f6_46.mk x.fst x.snd.fst (TEv.mk 0 0 0 0 0) (TEv.mk x.snd.snd.fst 11 0 0 0)))
 (.AM S_f6_46 D_f6_46 (X_f6_46.mk x.fst x.snd.fst (TEv.mk 0 0 0 0 0) (TEv.mk x.snd.snd.fst 10 y1.Ring 0 x.snd.snd.snd.fst)))))
 (.ite (AW y1.Kind 7)
 (.AM S_f6_46 D_f6_46 (X_f6_46.mk x.fst x.snd.fst (TEv.mk 0 0 0 0 0) (TEv.mk x.snd.snd.fst 12 y1.Ring 0 y1.Value)))
 (.ite (AW y1.Kind 8)
 (.AM S_f6_46 D_f6_46 (X_f6_46.mk x.fst x.snd.fst (TEv.mk 0 0 0 0 0) (TEv.mk x.snd.snd.fst (IntKind.i64.wrap (y1.Kind + 6)) y1.Ring 0 0)))
 (.ite (AW y1.Kind 9)
 (.AM S_f6_46 D_f6_46 (X_f6_46.mk x.fst x.snd.fst (TEv.mk 0 0 0 0 0) (TEv.mk x.snd.snd.fst (IntKind.i64.wrap (y1.Kind + 6)) y1.Ring 0 0)))
 (.ite (AW y1.Kind 10)
 (.AM S_f6_46 D_f6_46 (X_f6_46.mk x.fst x.snd.fst (TEv.mk 0 0 0 0 0) (TEv.mk x.snd.snd.fst (IntKind.i64.wrap ((2 : Int) * (IntKind.i64.wrap (y1.Kind - 9)))) y1.Ring y1.AG 0)))
 (.ite (AW y1.Kind 11)
 (.AM S_f6_46 D_f6_46 (X_f6_46.mk x.fst x.snd.fst (TEv.mk 0 0 0 0 0) (TEv.mk x.snd.snd.fst (IntKind.i64.wrap ((2 : Int) * (IntKind.i64.wrap (y1.Kind - 9)))) y1.Ring y1.AG 0)))
 (.AM S_f6_46 D_f6_46 (X_f6_46.mk x.fst x.snd.fst (TEv.mk 0 0 0 0 0) (TEv.mk x.snd.snd.fst 0 y1.Ring 0 0))))))))))))))))
theorem sd_f6 (x : X_f6) : (tt_f6 x).AJ :=
 (TT.sC fun _ => (TT.sI TT.sR (TT.sI TT.sJ (TT.sI TT.sJ (TT.sI (TT.sN TT.sJ) (TT.sI TT.sJ (TT.sI TT.sJ (TT.sI (TT.sI TT.sJ (TT.sI TT.sJ TT.sJ)) (TT.sI TT.sJ (TT.sI TT.sJ (TT.sI TT.sJ (TT.sI TT.sJ (TT.sI TT.sJ TT.sJ)))))))))))))
def D_f6 : AU X_f6 R_f6 := .of tt_f6
def con_f6 : BE Tryz.prog :=
 B2 50 J_f6 S_f6 D_f6 6 0 [sh_TPg, sh_TSt, .any, .any, .any, .any] (lk mxk (lbc ok_f6_46 rfl (lbc ok_f6_20 rfl (lbc ok_f6_16 rfl (lbc ok_f6_14 rfl (lbc ok_f6_12 rfl (lbc ok_f6_8 rfl lbn)))))) sd_f6)
abbrev X_f19 : Type := TPg × TSt × (Sl Int) × AZ
abbrev R_f19 : Type := TEv × Bool
def J_f19 : BM Tryz.prog :=
 BS Tryz.prog Tryz.f19 69 [(4, 3), (5, 3), (7, 3), (48, 1), (53, 1)] [] [] [] [.any, .any] [] [con_f3z, con_f6] R_f19 [] fun y => [V.Cb (V.cons (e_TEv y.1) (V.cons (V.bool y.2) (V.unit)))]
def S_f19 : AO :=
 Aj Tryz.f19 4 0 X_f19 (fun x => [e_TPg x.1, e_TSt x.2.1, BG x.2.2.1, Bg x.2.2.2]) fun l => (d_TPg (at_ l 0), d_TSt (at_ l 1), Bc (at_ l 2), Bo (at_ l 3))
structure X_f19_3 where
 HS : (Sl Int)
 UJ : TPg
 PU : TSt
 PV : AZ
 G0 : TEv
def S_f19_3 : AO :=
 Ad Tryz.f19 3 [(2, BP), (4, .any), (5, .any), (7, .any), (8, .any)] [] [(.loc 8 0, .any)] X_f19_3 (fun x => [BG x.HS, (Ch e_TPg) x.UJ, (Ch e_TSt) x.PU, (Ch Bg) x.PV, (V.ptr (.loc 8 0) []), e_TEv x.G0]) fun l => ⟨Bc (at_ l 0), (Ci d_TPg) (at_ l 1), (Ci d_TSt) (at_ l 2), (Ci Bo) (at_ l 3), d_TEv (at_ l 5)⟩
structure X_f19_10 where
 UJ : TPg
 PU : TSt
 PV : AZ
 Vu : Int
 Td : Bool
 G0 : TEv
def S_f19_10 : AO :=
 Ad Tryz.f19 10 (an [4, 5, 7, 8, 10, 11]) [] [(.loc 8 0, .any)] X_f19_10 (fun x => [(Ch e_TPg) x.UJ, (Ch e_TSt) x.PU, (Ch Bg) x.PV, (V.ptr (.loc 8 0) []), (V.int .u64) x.Vu, V.bool x.Td, e_TEv x.G0]) fun l => ⟨(Ci d_TPg) (at_ l 0), (Ci d_TSt) (at_ l 1), (Ci Bo) (at_ l 2), dI (at_ l 4), dB (at_ l 5), d_TEv (at_ l 6)⟩
def tt_f19_10 (x : X_f19_10) : TT Tryz.prog R_f19 :=
 (.call con_f6 (x.UJ, (x.PU, (x.PV.Bj, (x.Vu, (x.Td, x.PV.Hh))))) fun (y1 : R_f6) =>
 (.ite (!y1.snd)
 (.ret ((TEv.mk 0 0 0 0 0), false))
 (.ret (y1.fst, true))))
theorem sd_f19_10 (x : X_f19_10) : (tt_f19_10 x).AJ :=
 (TT.sC fun _ => (TT.sI TT.sR TT.sR))
def D_f19_10 : AU X_f19_10 R_f19 := .of tt_f19_10
theorem ok_f19_10 : AY J_f19 S_f19_10 D_f19_10 :=
 lk mxk lbn sd_f19_10
def tt_f19_3 (x : X_f19_3) : TT Tryz.prog R_f19 :=
 (.call con_f3z (x.UJ, (x.PU, x.PV.Bj)) fun (y1 : R_f3z) =>
 (.ite (AW y1.Kind 5)
 (.AM S_f19_10 D_f19_10 (X_f19_10.mk x.UJ x.PU x.PV x.PV.Gj (Bw (IntKind.u64.wrap ((x.HS.n : Nat) : Int)) x.PU.Reads) x.G0))
 (.ite (AW y1.Kind 6)
 (.ite (!(Bw (IntKind.u64.wrap ((x.HS.n : Nat) : Int)) x.PU.Reads))
 (.need (A6 x.PU.Reads x.HS.n) <|
 (.AM S_f19_10 D_f19_10 (X_f19_10.mk x.UJ x.PU x.PV (x.HS.get (Int.toNat x.PU.Reads)) (Bw (IntKind.u64.wrap ((x.HS.n : Nat) : Int)) x.PU.Reads) x.G0)))
 (.AM S_f19_10 D_f19_10 (X_f19_10.mk x.UJ x.PU x.PV x.PV.Du (Bw (IntKind.u64.wrap ((x.HS.n : Nat) : Int)) x.PU.Reads) x.G0)))
 (.AM S_f19_10 D_f19_10 (X_f19_10.mk x.UJ x.PU x.PV x.PV.Du (Bw (IntKind.u64.wrap ((x.HS.n : Nat) : Int)) x.PU.Reads) x.G0)))))
theorem sd_f19_3 (x : X_f19_3) : (tt_f19_3 x).AJ :=
 (TT.sC fun _ => (TT.sI TT.sJ (TT.sI (TT.sI (TT.sN TT.sJ) TT.sJ) TT.sJ)))
def D_f19_3 : AU X_f19_3 R_f19 := .of tt_f19_3
theorem ok_f19_3 : AY J_f19 S_f19_3 D_f19_3 :=
 lk mxk (lbc ok_f19_10 rfl lbn) sd_f19_3
def tt_f19 (x : X_f19) : TT Tryz.prog R_f19 :=
 (.ite (Bq x.snd.snd.snd.Bj 0)
 (.ret ((TEv.mk 0 0 0 0 0), false))
 (.ite (Bw ((x.snd.fst.AB.n : Nat) : Int) x.snd.snd.snd.Bj)
 (.ret ((TEv.mk 0 0 0 0 0), false))
 (.AM S_f19_3 D_f19_3 (X_f19_3.mk x.snd.snd.fst x.fst x.snd.fst x.snd.snd.snd (TEv.mk 0 0 0 0 0)))))
theorem sd_f19 (x : X_f19) : (tt_f19 x).AJ :=
 (TT.sI TT.sR (TT.sI TT.sR TT.sJ))
def D_f19 : AU X_f19 R_f19 := .of tt_f19
def con_f19 : BE Tryz.prog :=
 B2 19 J_f19 S_f19 D_f19 4 0 [sh_TPg, sh_TSt, BP, .any] (lk mxk (lbc ok_f19_10 rfl (lbc ok_f19_3 rfl lbn)) sd_f19)
abbrev X_f2u : Type := TR3 × Int
abbrev R_f2u : Type := Int × Int × TR3
def J_f2u : BM Tryz.prog :=
 BS Tryz.prog Tryz.f94 51 [(29, 1)] [(9, [.close (.loc 38 0), .close (.loc 35 0), .U0 (.loc 2 0) [.CI 2 2]])] [(8, [.Ia (.loc 2 0) [.CI 2 2] 35, .Ia (.loc 2 0) [.CI 2 2] 38])] [.close (.loc 38 0), .close (.loc 35 0)] [.any, .any, sh_TR3] [] [] R_f2u [(0, [⟨.loc 35 0, .loc 2 0, [.CI 2 2], none, none⟩, ⟨.loc 38 0, .loc 2 0, [.CI 2 2], none, none⟩]), (3, [⟨.loc 35 0, .loc 2 0, [.CI 2 2], none, none⟩, ⟨.loc 38 0, .loc 2 0, [.CI 2 2], none, none⟩])] fun y => [V.Cb (V.cons ((V.int .u64) y.1) (V.cons ((V.int .i64) y.2.1) (V.cons (e_TR3 y.2.2) (V.unit))))]
def S_f2u : AO :=
 Aj Tryz.f94 2 0 X_f2u (fun x => [e_TR3 x.1, (V.int .i64) x.2]) fun l => (d_TR3 (at_ l 0), dI (at_ l 1))
structure X_f2u_3 where
 FY : Int
 Bv : TR3
 FG : TR3
def S_f2u_3 : AO :=
 Ad Tryz.f94 3 (an [1, 2, 6]) [] [(.loc 2 0, sh_TR3), (.loc 6 0, sh_TR3)] X_f2u_3 (fun x => [(V.int .i64) x.FY, (V.ptr (.loc 2 0) []), (V.ptr (.loc 6 0) []), e_TR3 x.Bv, e_TR3 x.FG]) fun l => ⟨dI (at_ l 0), d_TR3 (at_ l 3), d_TR3 (at_ l 4)⟩
def tt_f2u_3 (x : X_f2u_3) : TT Tryz.prog R_f2u :=
 (.need (A6 x.FY x.Bv.AV.n) <|
 (.ite (AW (x.Bv.AV.get (Int.toNat x.FY)) x.Bv.A0)
 (.ite x.Bv.As
 (.ret (0, (10, x.Bv)))
 (.ret (0, (9, x.Bv))))
 (.need (true && (room ((0 : Nat) + x.Bv.AV.n) 8)) <|
 (.need (A6 x.FY ((0 : Nat) + x.Bv.AV.n)) <|
 (.need ((Nat.beq ((0 : Nat) + x.Bv.AV.n) ((0 : Nat) + x.Bv.AV.n)) && true) <|
 (.need (A6 x.FY ((0 : Nat) + x.Bv.AV.n)) <|
 (.need ((Nat.beq ((0 : Nat) + x.Bv.AV.n) ((0 : Nat) + x.Bv.AV.n)) && true) <|
 (.need ((true && true) && (Nat.beq ((0 : Nat) + x.Bv.AV.n) ((0 : Nat) + x.Bv.AV.n))) <|
 (.side (∀ i1 : Nat, ((i1 < ((0 : Nat) + x.Bv.AV.n)) → (true = true))) <|
 (.need (A6 x.FY ((0 : Nat) + x.Bv.AV.n)) <|
 (.ret ((IntKind.u64.wrap ((cond (Nat.beq (Int.toNat x.FY) ((0 : Nat) + (Int.toNat x.FY))) (IntKind.u64.wrap ((cond (Nat.blt ((0 : Nat) + (Int.toNat x.FY)) 0) (0 : Int) (x.Bv.AV.get (((0 : Nat) + (Int.toNat x.FY)) - 0))) + 1)) (cond (Nat.blt (Int.toNat x.FY) 0) (0 : Int) (x.Bv.AV.get ((Int.toNat x.FY) - 0)))) - 1)), (0, (TR3.mk x.Bv.DP x.Bv.A0 (Sl.mk (cond (Nat.beq x.Bv.AV.n 0) false false) ((0 : Nat) + x.Bv.AV.n) (fun i1 => (cond (Nat.beq i1 ((0 : Nat) + (Int.toNat x.FY))) (IntKind.u64.wrap ((cond (Nat.blt ((0 : Nat) + (Int.toNat x.FY)) 0) (0 : Int) (x.Bv.AV.get (((0 : Nat) + (Int.toNat x.FY)) - 0))) + 1)) (cond (Nat.blt i1 0) (0 : Int) (x.Bv.AV.get (i1 - 0)))))) x.Bv.As x.Bv.S))))))))))))))
theorem sd_f2u_3 (x : X_f2u_3) : (tt_f2u_3 x).AJ :=
 (TT.sN (TT.sI (TT.sI TT.sR TT.sR) (TT.sN (TT.sN (TT.sN (TT.sN (TT.sN (TT.sN (TT.sS (fun _ _ => rfl) (TT.sN TT.sR))))))))))
def D_f2u_3 : AU X_f2u_3 R_f2u := .of tt_f2u_3
theorem ok_f2u_3 : AY J_f2u S_f2u_3 D_f2u_3 :=
 lk mxk lbn sd_f2u_3
def tt_f2u (x : X_f2u) : TT Tryz.prog R_f2u :=
 (.ite (Bq x.snd 0)
 (.ret (0, (1, x.fst)))
 (.ite (Bw ((x.fst.AV.n : Nat) : Int) x.snd)
 (.ret (0, (1, x.fst)))
 (.AM S_f2u_3 D_f2u_3 (X_f2u_3.mk x.snd x.fst (TR3.mk 0 0 (Sl.mk true 0 (fun _i1 => (0 : Int))) false (TR2.mk (Sl.mk true 0 (fun _i1 => (TSo.mk 0 0 0))) 0))))))
theorem sd_f2u (x : X_f2u) : (tt_f2u x).AJ :=
 (TT.sI TT.sR (TT.sI TT.sR TT.sJ))
def D_f2u : AU X_f2u R_f2u := .of tt_f2u
def con_f2u : BE Tryz.prog :=
 B2 94 J_f2u S_f2u D_f2u 2 0 [sh_TR3, .any] (lk mxk (lbc ok_f2u_3 rfl lbn) sd_f2u)
abbrev X_fp : Type := (Sl TIn) × TTh × TEv × Int
abbrev R_fp : Type := TTh
def J_fp : BM Tryz.prog :=
 BS Tryz.prog Tryz.f96 117 [(6, 3), (35, 1)] [] [] [] [sh_TTh] [] [] R_fp [] fun y => [e_TTh y]
def S_fp : AO :=
 Aj Tryz.f96 4 0 X_fp (fun x => [esl_TIn x.1, e_TTh x.2.1, e_TEv x.2.2.1, (V.int .u64) x.2.2.2]) fun l => (dsl_TIn (at_ l 0), d_TTh (at_ l 1), d_TEv (at_ l 2), dI (at_ l 3))
structure X_fp_12 where
 CD : (Sl TIn)
 Vs : Int
 I9 : TEv
 BI : TTh
 G0 : TTh
def S_fp_12 : AO :=
 Ad Tryz.f96 12 [(0, hsl_TIn), (3, .any), (5, .any), (6, .any), (8, .any)] [] [(.loc 5 0, sh_TTh), (.loc 8 0, sh_TTh)] X_fp_12 (fun x => [esl_TIn x.CD, (V.int .u64) x.Vs, (V.ptr (.loc 5 0) []), (Ch e_TEv) x.I9, (V.ptr (.loc 8 0) []), e_TTh x.BI, e_TTh x.G0]) fun l => ⟨dsl_TIn (at_ l 0), dI (at_ l 1), (Ci d_TEv) (at_ l 3), d_TTh (at_ l 5), d_TTh (at_ l 6)⟩
structure X_fp_33 where
 BI : TTh
 G0 : TTh
def S_fp_33 : AO :=
 Ad Tryz.f96 33 (an [5, 8]) [] [(.loc 5 0, sh_TTh), (.loc 8 0, sh_TTh)] X_fp_33 (fun x => [(V.ptr (.loc 5 0) []), (V.ptr (.loc 8 0) []), e_TTh x.BI, e_TTh x.G0]) fun l => ⟨d_TTh (at_ l 2), d_TTh (at_ l 3)⟩
def tt_fp_33 (x : X_fp_33) : TT Tryz.prog R_fp :=
 (.ret (TTh.mk (IntKind.i64.wrap (x.BI.At + 1)) 0 0 x.BI.Status 0 x.BI.Ae x.BI.Seen))
theorem sd_fp_33 (x : X_fp_33) : (tt_fp_33 x).AJ :=
 TT.sR
def D_fp_33 : AU X_fp_33 R_fp := .of tt_fp_33
theorem ok_fp_33 : AY J_fp S_fp_33 D_fp_33 :=
 lk mxk lbn sd_fp_33
def tt_fp_12 (x : X_fp_12) : TT Tryz.prog R_fp :=
 (.need (A6 x.BI.At x.CD.n) <|
 (.ite (AW x.I9.Kind 2)
 (.need (A6 (x.CD.get (Int.toNat x.BI.At)).B 8) <|
 (.AM S_fp_33 D_fp_33 (X_fp_33.mk (TTh.mk x.BI.At x.BI.Phase x.BI.Ring x.BI.Status x.BI.AG (fun i1 => (cond (Nat.beq i1 (Int.toNat (x.CD.get (Int.toNat x.BI.At)).B)) (0 : Int) (x.BI.Ae i1))) x.BI.Seen) x.G0)))
 (.ite (AW x.I9.Kind 4)
 (.need (A6 (x.CD.get (Int.toNat x.BI.At)).A 8) <|
 (.need (A6 (x.CD.get (Int.toNat x.BI.At)).B 8) <|
 (.AM S_fp_33 D_fp_33 (X_fp_33.mk (TTh.mk x.BI.At x.BI.Phase x.BI.Ring x.BI.Status x.BI.AG (fun i1 => (cond (Nat.beq i1 (Int.toNat (x.CD.get (Int.toNat x.BI.At)).B)) (0 : Int) (cond (Nat.beq i1 (Int.toNat (x.CD.get (Int.toNat x.BI.At)).A)) x.Vs (x.BI.Ae i1)))) x.BI.Seen) x.G0))))
 (.ite (AW x.I9.Kind 5)
 (.need (A6 (x.CD.get (Int.toNat x.BI.At)).B 8) <|
 (.AM S_fp_33 D_fp_33 (X_fp_33.mk (TTh.mk x.BI.At x.BI.Phase x.BI.Ring x.BI.Status x.BI.AG (fun i1 => (cond (Nat.beq i1 (Int.toNat (x.CD.get (Int.toNat x.BI.At)).B)) (IntKind.u64.wrap (IntKind.i64.wrap (x.I9.Kind - 4))) (x.BI.Ae i1))) x.BI.Seen) x.G0)))
 (.ite (AW x.I9.Kind 6)
 (.need (A6 (x.CD.get (Int.toNat x.BI.At)).B 8) <|
 (.AM S_fp_33 D_fp_33 (X_fp_33.mk (TTh.mk x.BI.At x.BI.Phase x.BI.Ring x.BI.Status x.BI.AG (fun i1 => (cond (Nat.beq i1 (Int.toNat (x.CD.get (Int.toNat x.BI.At)).B)) (IntKind.u64.wrap (IntKind.i64.wrap (x.I9.Kind - 4))) (x.BI.Ae i1))) x.BI.Seen) x.G0)))
 (.ite (AW x.I9.Kind 7)
 (.need (A6 (x.CD.get (Int.toNat x.BI.At)).B 8) <|
 (.AM S_fp_33 D_fp_33 (X_fp_33.mk (TTh.mk x.BI.At x.BI.Phase x.BI.Ring x.BI.Status x.BI.AG (fun i1 => (cond (Nat.beq i1 (Int.toNat (x.CD.get (Int.toNat x.BI.At)).B)) (IntKind.u64.wrap (IntKind.i64.wrap (x.I9.Kind - 4))) (x.BI.Ae i1))) x.BI.Seen) x.G0)))
 (.ite (AW x.I9.Kind 8)
 (.need (A6 (x.CD.get (Int.toNat x.BI.At)).A 8) <|
 (.AM S_fp_33 D_fp_33 (X_fp_33.mk (TTh.mk x.BI.At x.BI.Phase x.BI.Ring x.BI.Status x.BI.AG (fun i1 => (cond (Nat.beq i1 (Int.toNat (x.CD.get (Int.toNat x.BI.At)).A)) x.I9.Value (x.BI.Ae i1))) x.BI.Seen) x.G0)))
 (.ite (AW x.I9.Kind 9)
 (.need (A6 (x.CD.get (Int.toNat x.BI.At)).A 8) <|
 (.AM S_fp_33 D_fp_33 (X_fp_33.mk (TTh.mk x.BI.At x.BI.Phase x.BI.Ring x.BI.Status x.BI.AG (fun i1 => (cond (Nat.beq i1 (Int.toNat (x.CD.get (Int.toNat x.BI.At)).A)) x.I9.Value (x.BI.Ae i1))) x.BI.Seen) x.G0)))
 (.ite (AW x.I9.Kind 10)
 (.need (A6 (x.CD.get (Int.toNat x.BI.At)).A 8) <|
 (.need (A6 (x.CD.get (Int.toNat x.BI.At)).B 8) <|
 (.AM S_fp_33 D_fp_33 (X_fp_33.mk (TTh.mk x.BI.At x.BI.Phase x.BI.Ring x.BI.Status x.BI.AG (fun i1 => (cond (Nat.beq i1 (Int.toNat (x.CD.get (Int.toNat x.BI.At)).B)) (0 : Int) (cond (Nat.beq i1 (Int.toNat (x.CD.get (Int.toNat x.BI.At)).A)) x.I9.Value (x.BI.Ae i1)))) x.BI.Seen) x.G0))))
 (.ite (AW x.I9.Kind 11)
 (.need (A6 (x.CD.get (Int.toNat x.BI.At)).B 8) <|
 (.AM S_fp_33 D_fp_33 (X_fp_33.mk (TTh.mk x.BI.At x.BI.Phase x.BI.Ring x.BI.Status x.BI.AG (fun i1 => (cond (Nat.beq i1 (Int.toNat (x.CD.get (Int.toNat x.BI.At)).B)) (1 : Int) (x.BI.Ae i1))) x.BI.Seen) x.G0)))
 (.ite (AW x.I9.Kind 12)
 (.need (true && (room ((0 : Nat) + x.BI.Seen.n) 8)) <|
 (.need (true && (room (((0 : Nat) + x.BI.Seen.n) + 1) 8)) <|
 (.AM S_fp_33 D_fp_33 (X_fp_33.mk (TTh.mk x.BI.At x.BI.Phase x.BI.Ring x.BI.Status x.BI.AG x.BI.Ae (Sl.mk (cond (Nat.beq 1 0) (cond (Nat.beq x.BI.Seen.n 0) false false) false) (((0 : Nat) + x.BI.Seen.n) + 1) (fun i1 => (cond (Nat.blt i1 ((0 : Nat) + x.BI.Seen.n)) (cond (Nat.blt i1 0) (0 : Int) (x.BI.Seen.get (i1 - 0))) x.I9.Value)))) x.G0))))
 (.AM S_fp_33 D_fp_33 (X_fp_33.mk x.BI x.G0)))))))))))))
theorem sd_fp_12 (x : X_fp_12) : (tt_fp_12 x).AJ :=
 (TT.sN (TT.sI (TT.sN TT.sJ) (TT.sI (TT.sN (TT.sN TT.sJ)) (TT.sI (TT.sN TT.sJ) (TT.sI (TT.sN TT.sJ) (TT.sI (TT.sN TT.sJ) (TT.sI (TT.sN TT.sJ) (TT.sI (TT.sN TT.sJ) (TT.sI (TT.sN (TT.sN TT.sJ)) (TT.sI (TT.sN TT.sJ) (TT.sI (TT.sN (TT.sN TT.sJ)) TT.sJ)))))))))))
def D_fp_12 : AU X_fp_12 R_fp := .of tt_fp_12
theorem ok_fp_12 : AY J_fp S_fp_12 D_fp_12 :=
 lk mxk (lbc ok_fp_33 rfl lbn) sd_fp_12
def tt_fp (x : X_fp) : TT Tryz.prog R_fp :=
 (.ite (AW x.snd.snd.fst.Kind 1)
 (.ret (TTh.mk x.snd.fst.At (IntKind.i64.wrap (Int.tdiv (IntKind.i64.wrap (x.snd.snd.fst.Kind + 1)) 2)) x.snd.snd.fst.Ring x.snd.fst.Status x.snd.snd.fst.AG x.snd.fst.Ae x.snd.fst.Seen))
 (.ite (AW x.snd.snd.fst.Kind 3)
 (.ret (TTh.mk x.snd.fst.At (IntKind.i64.wrap (Int.tdiv (IntKind.i64.wrap (x.snd.snd.fst.Kind + 1)) 2)) x.snd.snd.fst.Ring x.snd.fst.Status x.snd.snd.fst.AG x.snd.fst.Ae x.snd.fst.Seen))
 (.ite (AW x.snd.snd.fst.Kind 14)
 (.ret (TTh.mk x.snd.fst.At x.snd.fst.Phase x.snd.fst.Ring (IntKind.i64.wrap (x.snd.snd.fst.Kind - 13)) x.snd.fst.AG x.snd.fst.Ae x.snd.fst.Seen))
 (.ite (AW x.snd.snd.fst.Kind 15)
 (.ret (TTh.mk x.snd.fst.At x.snd.fst.Phase x.snd.fst.Ring (IntKind.i64.wrap (x.snd.snd.fst.Kind - 13)) x.snd.fst.AG x.snd.fst.Ae x.snd.fst.Seen))
 (.AM S_fp_12 D_fp_12 (X_fp_12.mk x.fst x.snd.snd.snd x.snd.snd.fst x.snd.fst (TTh.mk 0 0 0 0 0 (fun _i1 => (0 : Int)) (Sl.mk true 0 (fun _i1 => (0 : Int))))))))))
theorem sd_fp (x : X_fp) : (tt_fp x).AJ :=
 (TT.sI TT.sR (TT.sI TT.sR (TT.sI TT.sR (TT.sI TT.sR TT.sJ))))
def D_fp : AU X_fp R_fp := .of tt_fp
def con_fp : BE Tryz.prog :=
 B2 96 J_fp S_fp D_fp 4 0 [hsl_TIn, sh_TTh, .any, .any] (lk mxk (lbc ok_fp_33 rfl (lbc ok_fp_12 rfl lbn)) sd_fp)
abbrev X_f7 : Type := TPg × TSt × TEv
abbrev R_f7 : Type := TSt
def J_f7 : BM Tryz.prog :=
 BS Tryz.prog Tryz.f53 143 [(3, 3), (5, 3), (13, 1), (52, 1), (63, 1), (73, 1), (86, 1), (96, 1), (122, 1), (140, 1)] [(17, [.open_ 11]), (18, [.E0 11, .QE 11]), (26, [.open_ 12]), (27, [.E0 12, .QE 12])] [] [] [sh_TSt] [] [con_f33, con_f1p, con_f3o, con_f2u, con_fp, con_fk, con_f3g] R_f7 [] fun y => [e_TSt y]
def S_f7 : AO :=
 Aj Tryz.f53 3 0 X_f7 (fun x => [e_TPg x.1, e_TSt x.2.1, e_TEv x.2.2]) fun l => (d_TPg (at_ l 0), d_TSt (at_ l 1), d_TEv (at_ l 2))
structure X_f7_16 where
 Fy : TPg
 Fz : TEv
 N8 : Int
 Cc : TSt
 FG : TSt
 Dv : TTh
 B4 : TR3
def S_f7_16 : AO :=
 Ad Tryz.f53 16 (an [3, 4, 5, 6, 7, 9, 10]) [] [(.loc 4 0, sh_TSt), (.loc 6 0, sh_TSt), (.loc 7 0, sh_TTh), (.loc 10 0, sh_TR3)] X_f7_16 (fun x => [(Ch e_TPg) x.Fy, (V.ptr (.loc 4 0) []), (Ch e_TEv) x.Fz, (V.ptr (.loc 6 0) []), (V.ptr (.loc 7 0) []), (V.int .u64) x.N8, (V.ptr (.loc 10 0) []), e_TSt x.Cc, e_TSt x.FG, e_TTh x.Dv, e_TR3 x.B4]) fun l => ⟨(Ci d_TPg) (at_ l 0), (Ci d_TEv) (at_ l 2), dI (at_ l 5), d_TSt (at_ l 7), d_TSt (at_ l 8), d_TTh (at_ l 9), d_TR3 (at_ l 10)⟩
structure X_f7_19 where
 Fy : TPg
 Fz : TEv
 N8 : Int
 Cc : TSt
 FG : TSt
 Dv : TTh
def S_f7_19 : AO :=
 Ad Tryz.f53 19 (an [3, 4, 5, 6, 7, 9]) [] [(.loc 4 0, sh_TSt), (.loc 6 0, sh_TSt), (.loc 7 0, sh_TTh)] X_f7_19 (fun x => [(Ch e_TPg) x.Fy, (V.ptr (.loc 4 0) []), (Ch e_TEv) x.Fz, (V.ptr (.loc 6 0) []), (V.ptr (.loc 7 0) []), (V.int .u64) x.N8, e_TSt x.Cc, e_TSt x.FG, e_TTh x.Dv]) fun l => ⟨(Ci d_TPg) (at_ l 0), (Ci d_TEv) (at_ l 2), dI (at_ l 5), d_TSt (at_ l 6), d_TSt (at_ l 7), d_TTh (at_ l 8)⟩
structure X_f7_21 where
 Fy : TPg
 Fz : TEv
 N8 : Int
 Cc : TSt
 FG : TSt
 Dv : TTh
def S_f7_21 : AO :=
 Ad Tryz.f53 21 (an [3, 4, 5, 6, 7, 9]) [] [(.loc 4 0, sh_TSt), (.loc 6 0, sh_TSt), (.loc 7 0, sh_TTh)] X_f7_21 (fun x => [(Ch e_TPg) x.Fy, (V.ptr (.loc 4 0) []), (Ch e_TEv) x.Fz, (V.ptr (.loc 6 0) []), (V.ptr (.loc 7 0) []), (V.int .u64) x.N8, e_TSt x.Cc, e_TSt x.FG, e_TTh x.Dv]) fun l => ⟨(Ci d_TPg) (at_ l 0), (Ci d_TEv) (at_ l 2), dI (at_ l 5), d_TSt (at_ l 6), d_TSt (at_ l 7), d_TTh (at_ l 8)⟩
structure X_f7_23 where
 Fy : TPg
 Fz : TEv
 N8 : Int
 Cc : TSt
 FG : TSt
 Dv : TTh
def S_f7_23 : AO :=
 Ad Tryz.f53 23 (an [3, 4, 5, 6, 7, 9]) [] [(.loc 4 0, sh_TSt), (.loc 6 0, sh_TSt), (.loc 7 0, sh_TTh)] X_f7_23 (fun x => [(Ch e_TPg) x.Fy, (V.ptr (.loc 4 0) []), (Ch e_TEv) x.Fz, (V.ptr (.loc 6 0) []), (V.ptr (.loc 7 0) []), (V.int .u64) x.N8, e_TSt x.Cc, e_TSt x.FG, e_TTh x.Dv]) fun l => ⟨(Ci d_TPg) (at_ l 0), (Ci d_TEv) (at_ l 2), dI (at_ l 5), d_TSt (at_ l 6), d_TSt (at_ l 7), d_TTh (at_ l 8)⟩
structure X_f7_25 where
 Fy : TPg
 Fz : TEv
 N8 : Int
 Cc : TSt
 FG : TSt
 Dv : TTh
def S_f7_25 : AO :=
 Ad Tryz.f53 25 (an [3, 4, 5, 6, 7, 9]) [] [(.loc 4 0, sh_TSt), (.loc 6 0, sh_TSt), (.loc 7 0, sh_TTh)] X_f7_25 (fun x => [(Ch e_TPg) x.Fy, (V.ptr (.loc 4 0) []), (Ch e_TEv) x.Fz, (V.ptr (.loc 6 0) []), (V.ptr (.loc 7 0) []), (V.int .u64) x.N8, e_TSt x.Cc, e_TSt x.FG, e_TTh x.Dv]) fun l => ⟨(Ci d_TPg) (at_ l 0), (Ci d_TEv) (at_ l 2), dI (at_ l 5), d_TSt (at_ l 6), d_TSt (at_ l 7), d_TTh (at_ l 8)⟩
def tt_f7_25 (x : X_f7_25) : TT Tryz.prog R_f7 :=
 (.need (true && (room ((0 : Nat) + x.Cc.AB.n) 128)) <|
 (.need (A6 x.Fz.Thread x.Fy.AB.n) <|
 (.call con_fp ((x.Fy.AB.get (Int.toNat x.Fz.Thread)), (x.Dv, (x.Fz, x.N8))) fun (y1 : R_fp) =>
 (.need (A6 x.Fz.Thread ((0 : Nat) + x.Cc.AB.n)) <|
 (.need ((Nat.beq ((0 : Nat) + x.Cc.AB.n) ((0 : Nat) + x.Cc.AB.n)) && true) <|
 (.need (Nat.beq ((0 : Nat) + x.Cc.AB.n) ((0 : Nat) + x.Cc.AB.n)) <|
 (.side (∀ i2 : Nat, ((i2 < ((0 : Nat) + x.Cc.AB.n)) → ((true && (true && (true && (true && (true && ((true && (true && (true && (true && (true && (true && (true && (true && true)))))))) && (true && true))))))) = true))) <|
 (.ret (TSt.mk (Sl.mk (cond (Nat.beq x.Cc.AB.n 0) false false) ((0 : Nat) + x.Cc.AB.n) (fun i2 => (TTh.mk (cond (Nat.beq i2 ((0 : Nat) + (Int.toNat x.Fz.Thread))) y1.At (cond (Nat.blt i2 0) (0 : Int) (x.Cc.AB.get (i2 - 0)).At)) (cond (Nat.beq i2 ((0 : Nat) + (Int.toNat x.Fz.Thread))) y1.Phase (cond (Nat.blt i2 0) (0 : Int) (x.Cc.AB.get (i2 - 0)).Phase)) (cond (Nat.beq i2 ((0 : Nat) + (Int.toNat x.Fz.Thread))) y1.Ring (cond (Nat.blt i2 0) (0 : Int) (x.Cc.AB.get (i2 - 0)).Ring)) (cond (Nat.beq i2 ((0 : Nat) + (Int.toNat x.Fz.Thread))) y1.Status (cond (Nat.blt i2 0) (0 : Int) (x.Cc.AB.get (i2 - 0)).Status)) (cond (Nat.beq i2 ((0 : Nat) + (Int.toNat x.Fz.Thread))) y1.AG (cond (Nat.blt i2 0) (0 : Int) (x.Cc.AB.get (i2 - 0)).AG)) (fun i3 => (cond (Nat.beq i2 ((0 : Nat) + (Int.toNat x.Fz.Thread))) (y1.Ae i3) (cond (Nat.blt i2 0) (0 : Int) ((x.Cc.AB.get (i2 - 0)).Ae i3)))) (Sl.mk (cond (Nat.beq i2 ((0 : Nat) + (Int.toNat x.Fz.Thread))) y1.Seen.nil (cond (Nat.blt i2 0) true (x.Cc.AB.get (i2 - 0)).Seen.nil)) (cond (Nat.beq i2 ((0 : Nat) + (Int.toNat x.Fz.Thread))) y1.Seen.n (cond (Nat.blt i2 0) (0 : Nat) (x.Cc.AB.get (i2 - 0)).Seen.n)) (fun i3 => (cond (Nat.beq i2 ((0 : Nat) + (Int.toNat x.Fz.Thread))) (y1.Seen.get i3) (cond (Nat.blt i2 0) (0 : Int) ((x.Cc.AB.get (i2 - 0)).Seen.get i3)))))))) x.Cc.AF x.Cc.Ec x.Cc.Reads x.Cc.BO)))))))))
theorem sd_f7_25 (x : X_f7_25) : (tt_f7_25 x).AJ :=
 (TT.sN (TT.sN (TT.sC fun _ => (TT.sN (TT.sN (TT.sN (TT.sS (fun _ _ => rfl) TT.sR)))))))
def D_f7_25 : AU X_f7_25 R_f7 := .of tt_f7_25
theorem ok_f7_25 : AY J_f7 S_f7_25 D_f7_25 :=
 lk mxk lbn sd_f7_25
def tt_f7_23 (x : X_f7_23) : TT Tryz.prog R_f7 :=
 (.ite (AW x.Fz.Kind 11)
 (.AM S_f7_25 D_f7_25 (X_f7_25.mk x.Fy x.Fz x.N8 (TSt.mk x.Cc.AB x.Cc.AF x.Cc.Ec x.Cc.Reads true) x.FG x.Dv))
 (.AM S_f7_25 D_f7_25 (X_f7_25.mk x.Fy x.Fz x.N8 x.Cc x.FG x.Dv)))
theorem sd_f7_23 (x : X_f7_23) : (tt_f7_23 x).AJ :=
 (TT.sI TT.sJ TT.sJ)
def D_f7_23 : AU X_f7_23 R_f7 := .of tt_f7_23
theorem ok_f7_23 : AY J_f7 S_f7_23 D_f7_23 :=
 lk mxk (lbc ok_f7_25 rfl lbn) sd_f7_23
def tt_f7_21 (x : X_f7_21) : TT Tryz.prog R_f7 :=
 (.ite (AW x.Fz.Kind 10)
 (.AM S_f7_23 D_f7_23 (X_f7_23.mk x.Fy x.Fz x.N8 (TSt.mk x.Cc.AB x.Cc.AF x.Cc.Ec (IntKind.u64.wrap (x.Cc.Reads + 1)) x.Cc.BO) x.FG x.Dv))
 (.AM S_f7_23 D_f7_23 (X_f7_23.mk x.Fy x.Fz x.N8 x.Cc x.FG x.Dv)))
theorem sd_f7_21 (x : X_f7_21) : (tt_f7_21 x).AJ :=
 (TT.sI TT.sJ TT.sJ)
def D_f7_21 : AU X_f7_21 R_f7 := .of tt_f7_21
theorem ok_f7_21 : AY J_f7 S_f7_21 D_f7_21 :=
 lk mxk (lbc ok_f7_25 rfl (lbc ok_f7_23 rfl lbn)) sd_f7_21
def tt_f7_19 (x : X_f7_19) : TT Tryz.prog R_f7 :=
 (.ite (AW x.Fz.Kind 8)
 (.ite (Bq x.Cc.Ec x.Fz.Value)
 (.AM S_f7_21 D_f7_21 (X_f7_21.mk x.Fy x.Fz x.N8 (TSt.mk x.Cc.AB x.Cc.AF x.Fz.Value x.Cc.Reads x.Cc.BO) x.FG x.Dv))
 (.AM S_f7_21 D_f7_21 (X_f7_21.mk x.Fy x.Fz x.N8 x.Cc x.FG x.Dv)))
 (.AM S_f7_21 D_f7_21 (X_f7_21.mk x.Fy x.Fz x.N8 x.Cc x.FG x.Dv)))
theorem sd_f7_19 (x : X_f7_19) : (tt_f7_19 x).AJ :=
 (TT.sI (TT.sI TT.sJ TT.sJ) TT.sJ)
def D_f7_19 : AU X_f7_19 R_f7 := .of tt_f7_19
theorem ok_f7_19 : AY J_f7 S_f7_19 D_f7_19 :=
 lk mxk (lbc ok_f7_25 rfl (lbc ok_f7_23 rfl (lbc ok_f7_21 rfl lbn))) sd_f7_19
def tt_f7_16 (x : X_f7_16) : TT Tryz.prog R_f7 :=
 (.need (true && (room ((0 : Nat) + x.Cc.AF.n) 64)) <|
 (.call con_f3o x.B4 fun (y1 : R_f3o) =>
 (.need (A6 x.Fz.Ring ((0 : Nat) + x.Cc.AF.n)) <|
 (.need ((Nat.beq ((0 : Nat) + x.Cc.AF.n) ((0 : Nat) + x.Cc.AF.n)) && true) <|
 (.need (Nat.beq ((0 : Nat) + x.Cc.AF.n) ((0 : Nat) + x.Cc.AF.n)) <|
 (.side (∀ i2 : Nat, ((i2 < ((0 : Nat) + x.Cc.AF.n)) → ((true && (true && (true && (true && true)))) = true))) <|
 (.AM S_f7_19 D_f7_19 (X_f7_19.mk x.Fy x.Fz x.N8 (TSt.mk x.Cc.AB (Sl.mk (cond (Nat.beq x.Cc.AF.n 0) false false) ((0 : Nat) + x.Cc.AF.n) (fun i2 => (TRs.mk (cond (Nat.beq i2 ((0 : Nat) + (Int.toNat x.Fz.Ring))) y1.A0 (cond (Nat.blt i2 0) (0 : Int) (x.Cc.AF.get (i2 - 0)).A0)) (Sl.mk (cond (Nat.beq i2 ((0 : Nat) + (Int.toNat x.Fz.Ring))) y1.AV.nil (cond (Nat.blt i2 0) true (x.Cc.AF.get (i2 - 0)).AV.nil)) (cond (Nat.beq i2 ((0 : Nat) + (Int.toNat x.Fz.Ring))) y1.AV.n (cond (Nat.blt i2 0) (0 : Nat) (x.Cc.AF.get (i2 - 0)).AV.n)) (fun i3 => (cond (Nat.beq i2 ((0 : Nat) + (Int.toNat x.Fz.Ring))) (y1.AV.get i3) (cond (Nat.blt i2 0) (0 : Int) ((x.Cc.AF.get (i2 - 0)).AV.get i3))))) (cond (Nat.beq i2 ((0 : Nat) + (Int.toNat x.Fz.Ring))) y1.As (cond (Nat.blt i2 0) false (x.Cc.AF.get (i2 - 0)).As)) (Sl.mk (cond (Nat.beq i2 ((0 : Nat) + (Int.toNat x.Fz.Ring))) y1.Al.nil (cond (Nat.blt i2 0) true (x.Cc.AF.get (i2 - 0)).Al.nil)) (cond (Nat.beq i2 ((0 : Nat) + (Int.toNat x.Fz.Ring))) y1.Al.n (cond (Nat.blt i2 0) (0 : Nat) (x.Cc.AF.get (i2 - 0)).Al.n)) (fun i3 => (TSo.mk (cond (Nat.beq i2 ((0 : Nat) + (Int.toNat x.Fz.Ring))) (y1.Al.get i3).AP (cond (Nat.blt i2 0) (0 : Int) ((x.Cc.AF.get (i2 - 0)).Al.get i3).AP)) (cond (Nat.beq i2 ((0 : Nat) + (Int.toNat x.Fz.Ring))) (y1.Al.get i3).Value (cond (Nat.blt i2 0) (0 : Int) ((x.Cc.AF.get (i2 - 0)).Al.get i3).Value)) (cond (Nat.beq i2 ((0 : Nat) + (Int.toNat x.Fz.Ring))) (y1.Al.get i3).Left (cond (Nat.blt i2 0) (0 : Int) ((x.Cc.AF.get (i2 - 0)).Al.get i3).Left)))))))) x.Cc.Ec x.Cc.Reads x.Cc.BO) x.FG x.Dv))))))))
theorem sd_f7_16 (x : X_f7_16) : (tt_f7_16 x).AJ :=
 (TT.sN (TT.sC fun _ => (TT.sN (TT.sN (TT.sN (TT.sS (fun _ _ => rfl) TT.sJ))))))
def D_f7_16 : AU X_f7_16 R_f7 := .of tt_f7_16
theorem ok_f7_16 : AY J_f7 S_f7_16 D_f7_16 :=
 lk mxk (lbc ok_f7_25 rfl (lbc ok_f7_23 rfl (lbc ok_f7_21 rfl (lbc ok_f7_19 rfl lbn)))) sd_f7_16
def tt_f7 (x : X_f7) : TT Tryz.prog R_f7 :=
 (.need (A6 x.snd.snd.Thread x.fst.AB.n) <|
 (.need (A6 x.snd.snd.Thread x.snd.fst.AB.n) <|
 (.call con_fk ((x.fst.AB.get (Int.toNat x.snd.snd.Thread)), (x.snd.fst.AB.get (Int.toNat x.snd.snd.Thread))) fun (y1 : R_fk) =>
 (.ite (Bw x.snd.snd.Kind 4)
 (.call con_f3g (x.fst, (x.snd.fst, x.snd.snd.Ring)) fun (y2 : R_f3g) =>
 (.ite (AW x.snd.snd.Kind 1)
 (.AM S_f7_16 D_f7_16 (X_f7_16.mk x.fst x.snd.snd 0 x.snd.fst (TSt.mk (Sl.mk true 0 (fun _i3 => (TTh.mk 0 0 0 0 0 (fun _i4 => (0 : Int)) (Sl.mk true 0 (fun _i4 => (0 : Int)))))) (Sl.mk true 0 (fun _i3 => (TRs.mk 0 (Sl.mk true 0 (fun _i4 => (0 : Int))) false (Sl.mk true 0 (fun _i4 => (TSo.mk 0 0 0)))))) 0 0 false) y1.fst (TR3.mk y2.DP (IntKind.u64.wrap (y2.A0 + 1)) y2.AV y2.As y2.S)))
 (.ite (AW x.snd.snd.Kind 2)
 (.call con_f33 (y2, (x.snd.snd.AG, y1.snd.Value)) fun (y3 : R_f33) =>
 (.AM S_f7_16 D_f7_16 (X_f7_16.mk x.fst x.snd.snd 0 x.snd.fst (TSt.mk (Sl.mk true 0 (fun _i4 => (TTh.mk 0 0 0 0 0 (fun _i5 => (0 : Int)) (Sl.mk true 0 (fun _i5 => (0 : Int)))))) (Sl.mk true 0 (fun _i4 => (TRs.mk 0 (Sl.mk true 0 (fun _i5 => (0 : Int))) false (Sl.mk true 0 (fun _i5 => (TSo.mk 0 0 0)))))) 0 0 false) y1.fst y3.snd)))
 (.ite (AW x.snd.snd.Kind 3)
 (.call con_f2u (y2, y1.snd.Reader) fun (y3 : R_f2u) =>
 (.AM S_f7_16 D_f7_16 (X_f7_16.mk x.fst x.snd.snd 0 x.snd.fst (TSt.mk (Sl.mk true 0 (fun _i4 => (TTh.mk 0 0 0 0 0 (fun _i5 => (0 : Int)) (Sl.mk true 0 (fun _i5 => (0 : Int)))))) (Sl.mk true 0 (fun _i4 => (TRs.mk 0 (Sl.mk true 0 (fun _i5 => (0 : Int))) false (Sl.mk true 0 (fun _i5 => (TSo.mk 0 0 0)))))) 0 0 false) y1.fst y3.snd.snd)))
 (.ite (AW x.snd.snd.Kind 4)
 (.call con_f1p (y2, (y1.snd.Reader, x.snd.snd.AG)) fun (y3 : R_f1p) =>
 (.AM S_f7_16 D_f7_16 (X_f7_16.mk x.fst x.snd.snd y3.fst x.snd.fst (TSt.mk (Sl.mk true 0 (fun _i4 => (TTh.mk 0 0 0 0 0 (fun _i5 => (0 : Int)) (Sl.mk true 0 (fun _i5 => (0 : Int)))))) (Sl.mk true 0 (fun _i4 => (TRs.mk 0 (Sl.mk true 0 (fun _i5 => (0 : Int))) false (Sl.mk true 0 (fun _i5 => (TSo.mk 0 0 0)))))) 0 0 false) y1.fst y3.snd.snd)))
 (.ite (AW x.snd.snd.Kind 13)
 (.AM S_f7_16 D_f7_16 (X_f7_16.mk x.fst x.snd.snd 0 x.snd.fst (TSt.mk (Sl.mk true 0 (fun _i3 => (TTh.mk 0 0 0 0 0 (fun _i4 => (0 : Int)) (Sl.mk true 0 (fun _i4 => (0 : Int)))))) (Sl.mk true 0 (fun _i3 => (TRs.mk 0 (Sl.mk true 0 (fun _i4 => (0 : Int))) false (Sl.mk true 0 (fun _i4 => (TSo.mk 0 0 0)))))) 0 0 false) y1.fst (TR3.mk y2.DP y2.A0 y2.AV true y2.S)))
 (.AM S_f7_16 D_f7_16 (X_f7_16.mk x.fst x.snd.snd 0 x.snd.fst (TSt.mk (Sl.mk true 0 (fun _i3 => (TTh.mk 0 0 0 0 0 (fun _i4 => (0 : Int)) (Sl.mk true 0 (fun _i4 => (0 : Int)))))) (Sl.mk true 0 (fun _i3 => (TRs.mk 0 (Sl.mk true 0 (fun _i4 => (0 : Int))) false (Sl.mk true 0 (fun _i4 => (TSo.mk 0 0 0)))))) 0 0 false) y1.fst y2))))))))
 (.ite (AW x.snd.snd.Kind 13)
 (.call con_f3g (x.fst, (x.snd.fst, x.snd.snd.Ring)) fun (y2 : R_f3g) =>
 (.ite (AW x.snd.snd.Kind 1)
 (.AM S_f7_16 D_f7_16 (X_f7_16.mk x.fst x.snd.snd 0 x.snd.fst (TSt.mk (Sl.mk true 0 (fun _i3 => (TTh.mk 0 0 0 0 0 (fun _i4 => (0 : Int)) (Sl.mk true 0 (fun _i4 => (0 : Int)))))) (Sl.mk true 0 (fun _i3 => (TRs.mk 0 (Sl.mk true 0 (fun _i4 => (0 : Int))) false (Sl.mk true 0 (fun _i4 => (TSo.mk 0 0 0)))))) 0 0 false) y1.fst (TR3.mk y2.DP (IntKind.u64.wrap (y2.A0 + 1)) y2.AV y2.As y2.S)))
 (.ite (AW x.snd.snd.Kind 2)
 (.call con_f33 (y2, (x.snd.snd.AG, y1.snd.Value)) fun (y3 : R_f33) =>
 (.AM S_f7_16 D_f7_16 (X_f7_16.mk x.fst x.snd.snd 0 x.snd.fst (TSt.mk (Sl.mk true 0 (fun _i4 => (TTh.mk 0 0 0 0 0 (fun _i5 => (0 : Int)) (Sl.mk true 0 (fun _i5 => (0 : Int)))))) (Sl.mk true 0 (fun _i4 => (TRs.mk 0 (Sl.mk true 0 (fun _i5 => (0 : Int))) false (Sl.mk true 0 (fun _i5 => (TSo.mk 0 0 0)))))) 0 0 false) y1.fst y3.snd)))
 (.ite (AW x.snd.snd.Kind 3)
 (.call con_f2u (y2, y1.snd.Reader) fun (y3 : R_f2u) =>
 (.AM S_f7_16 D_f7_16 (X_f7_16.mk x.fst x.snd.snd 0 x.snd.fst (TSt.mk (Sl.mk true 0 (fun _i4 => (TTh.mk 0 0 0 0 0 (fun _i5 => (0 : Int)) (Sl.mk true 0 (fun _i5 => (0 : Int)))))) (Sl.mk true 0 (fun _i4 => (TRs.mk 0 (Sl.mk true 0 (fun _i5 => (0 : Int))) false (Sl.mk true 0 (fun _i5 => (TSo.mk 0 0 0)))))) 0 0 false) y1.fst y3.snd.snd)))
 (.ite (AW x.snd.snd.Kind 4)
 (.call con_f1p (y2, (y1.snd.Reader, x.snd.snd.AG)) fun (y3 : R_f1p) =>
 (.AM S_f7_16 D_f7_16 (X_f7_16.mk x.fst x.snd.snd y3.fst x.snd.fst (TSt.mk (Sl.mk true 0 (fun _i4 => (TTh.mk 0 0 0 0 0 (fun _i5 => (0 : Int)) (Sl.mk true 0 (fun _i5 => (0 : Int)))))) (Sl.mk true 0 (fun _i4 => (TRs.mk 0 (Sl.mk true 0 (fun _i5 => (0 : Int))) false (Sl.mk true 0 (fun _i5 => (TSo.mk 0 0 0)))))) 0 0 false) y1.fst y3.snd.snd)))
 (.ite (AW x.snd.snd.Kind 13)
 (.AM S_f7_16 D_f7_16 (X_f7_16.mk x.fst x.snd.snd 0 x.snd.fst (TSt.mk (Sl.mk true 0 (fun _i3 => (TTh.mk 0 0 0 0 0 (fun _i4 => (0 : Int)) (Sl.mk true 0 (fun _i4 => (0 : Int)))))) (Sl.mk true 0 (fun _i3 => (TRs.mk 0 (Sl.mk true 0 (fun _i4 => (0 : Int))) false (Sl.mk true 0 (fun _i4 => (TSo.mk 0 0 0)))))) 0 0 false) y1.fst (TR3.mk y2.DP y2.A0 y2.AV true y2.S)))
 (.AM S_f7_16 D_f7_16 (X_f7_16.mk x.fst x.snd.snd 0 x.snd.fst (TSt.mk (Sl.mk true 0 (fun _i3 => (TTh.mk 0 0 0 0 0 (fun _i4 => (0 : Int)) (Sl.mk true 0 (fun _i4 => (0 : Int)))))) (Sl.mk true 0 (fun _i3 => (TRs.mk 0 (Sl.mk true 0 (fun _i4 => (0 : Int))) false (Sl.mk true 0 (fun _i4 => (TSo.mk 0 0 0)))))) 0 0 false) y1.fst y2))))))))
 (.AM S_f7_19 D_f7_19 (X_f7_19.mk x.fst x.snd.snd 0 x.snd.fst (TSt.mk (Sl.mk true 0 (fun _i2 => (TTh.mk 0 0 0 0 0 (fun _i3 => (0 : Int)) (Sl.mk true 0 (fun _i3 => (0 : Int)))))) (Sl.mk true 0 (fun _i2 => (TRs.mk 0 (Sl.mk true 0 (fun _i3 => (0 : Int))) false (Sl.mk true 0 (fun _i3 => (TSo.mk 0 0 0)))))) 0 0 false) y1.fst)))))))
theorem sd_f7 (x : X_f7) : (tt_f7 x).AJ :=
 (TT.sN (TT.sN (TT.sC fun _ => (TT.sI (TT.sC fun _ => (TT.sI TT.sJ (TT.sI (TT.sC fun _ => TT.sJ) (TT.sI (TT.sC fun _ => TT.sJ) (TT.sI (TT.sC fun _ => TT.sJ) (TT.sI TT.sJ TT.sJ)))))) (TT.sI (TT.sC fun _ => (TT.sI TT.sJ (TT.sI (TT.sC fun _ => TT.sJ) (TT.sI (TT.sC fun _ => TT.sJ) (TT.sI (TT.sC fun _ => TT.sJ) (TT.sI TT.sJ TT.sJ)))))) TT.sJ)))))
def D_f7 : AU X_f7 R_f7 := .of tt_f7
def con_f7 : BE Tryz.prog :=
 B2 53 J_f7 S_f7 D_f7 3 0 [sh_TPg, sh_TSt, .any] (lk mxk (lbc ok_f7_25 rfl (lbc ok_f7_23 rfl (lbc ok_f7_21 rfl (lbc ok_f7_19 rfl (lbc ok_f7_16 rfl lbn))))) sd_f7)
abbrev X_f4g : Type := TPg × TSt × TEv
abbrev R_f4g : Type := Int × TSt
def J_f4g : BM Tryz.prog :=
 BS Tryz.prog Tryz.f20 27 [(3, 3), (4, 3), (5, 3)] [] [] [] [.any, sh_TSt] [] [con_f34, con_f40, con_f7] R_f4g [] fun y => [V.Cb (V.cons ((V.int .i64) y.1) (V.cons (e_TSt y.2) (V.unit)))]
def S_f4g : AO :=
 Aj Tryz.f20 3 0 X_f4g (fun x => [e_TPg x.1, e_TSt x.2.1, e_TEv x.2.2]) fun l => (d_TPg (at_ l 0), d_TSt (at_ l 1), d_TEv (at_ l 2))
def tt_f4g (x : X_f4g) : TT Tryz.prog R_f4g :=
 (.call con_f40 (x.fst, (x.snd.fst, x.snd.snd)) fun (y1 : R_f40) =>
 (.ite (!(AW y1 0))
 (.ret (y1, x.snd.fst))
 (.call con_f34 (x.fst, (x.snd.fst, x.snd.snd)) fun (y2 : R_f34) =>
 (.ite (!y2)
 (.ret (11, x.snd.fst))
 (.call con_f7 (x.fst, (x.snd.fst, x.snd.snd)) fun (y3 : R_f7) =>
 (.ret (0, y3)))))))
theorem sd_f4g (x : X_f4g) : (tt_f4g x).AJ :=
 (TT.sC fun _ => (TT.sI TT.sR (TT.sC fun _ => (TT.sI TT.sR (TT.sC fun _ => TT.sR)))))
def D_f4g : AU X_f4g R_f4g := .of tt_f4g
def con_f4g : BE Tryz.prog :=
 B2 20 J_f4g S_f4g D_f4g 3 0 [sh_TPg, sh_TSt, .any] (lk mxk lbn sd_f4g)
structure Ag where
 Ay : (Sl TEv)
 State : TSt
 Idle : Int
 Bd : Int
def Cf (v : V) : Ag :=
 ⟨dsl_TEv (fd v 0), d_TSt (fd v 1), dI (fd v 2), dI (fd v 3)⟩
def Ce (x : Ag) : V :=
 V.cons (esl_TEv x.Ay) (V.cons (e_TSt x.State) (V.cons ((V.int .i64) x.Idle) (V.cons ((V.int .i64) x.Bd) (V.unit))))
theorem Wn (x : Ag) : (Ce x).Cl := ⟨trivial, (nu_e_TSt : ∀ y, (e_TSt y).Cl) x.State, trivial, trivial, trivial⟩
def DC : Sh := (.cons hsl_TEv (.cons sh_TSt .any))
def C7 (x : Ag) : V :=
 V.cons (eslA_TEv x.Ay) (V.cons (e_TSt x.State) (V.cons ((V.int .i64) x.Idle) (V.cons ((V.int .i64) x.Bd) (V.unit))))
theorem Kg (x : Ag) : (C7 x).Cl := ⟨trivial, (nu_e_TSt : ∀ y, (e_TSt y).Cl) x.State, trivial, trivial, trivial⟩
def Dz : Sh := (.cons hslA_TEv (.cons sh_TSt .any))
abbrev X_fz : Type := TPg × (Sl Int) × (Sl AZ)
abbrev R_fz : Type := Ag
def J_fz : BM Tryz.prog :=
 BS Tryz.prog Tryz.f25 85 [(3, 3), (21, 1), (44, 1), (54, 1)] [] [] [] [DC] [] [con_f4g, con_f2m, con_f19] R_fz [] fun y => [Ce y]
def S_fz : AO :=
 Aj Tryz.f25 3 0 X_fz (fun x => [e_TPg x.1, BG x.2.1, BX x.2.2]) fun l => (d_TPg (at_ l 0), Bc (at_ l 1), B8 (at_ l 2))
structure X_fz_3 where
 Bl : (Sl Int)
 A9 : (Sl AZ)
 Fy : TPg
 Lc : Int
 FG : Ag
 Dv : Ag
def S_fz_3 : AO :=
 Ad Tryz.f25 3 [(1, BP), (2, Bu), (3, .any), (6, .any), (7, .any), (8, .any)] [] [(.loc 6 0, DC), (.loc 7 0, Dz)] X_fz_3 (fun x => [BG x.Bl, BX x.A9, (Ch e_TPg) x.Fy, (V.ptr (.loc 6 0) []), (V.ptr (.loc 7 0) []), (V.int .i64) x.Lc, Ce x.FG, C7 x.Dv]) fun l => ⟨Bc (at_ l 0), B8 (at_ l 1), (Ci d_TPg) (at_ l 2), dI (at_ l 5), Cf (at_ l 6), Cf (at_ l 7)⟩
structure X_fz_4 where
 Bl : (Sl Int)
 A9 : (Sl AZ)
 Fy : TPg
 Lc : Int
 FG : Ag
 Dv : Ag
def S_fz_4 : AO :=
 Ad Tryz.f25 4 [(1, BP), (2, Bu), (3, .any), (6, .any), (7, .any), (8, .any)] [] [(.loc 6 0, DC), (.loc 7 0, Dz)] X_fz_4 (fun x => [BG x.Bl, BX x.A9, (Ch e_TPg) x.Fy, (V.ptr (.loc 6 0) []), (V.ptr (.loc 7 0) []), (V.int .i64) x.Lc, Ce x.FG, C7 x.Dv]) fun l => ⟨Bc (at_ l 0), B8 (at_ l 1), (Ci d_TPg) (at_ l 2), dI (at_ l 5), Cf (at_ l 6), Cf (at_ l 7)⟩
def tt_fz_4 (D_fz_3 : AU X_fz_3 R_fz) (x : X_fz_4) : TT Tryz.prog R_fz :=
 (.AM S_fz_3 D_fz_3 (X_fz_3.mk x.Bl x.A9 x.Fy (IntKind.i64.wrap (x.Lc + 1)) x.FG x.Dv))
theorem sd_fz_4 (D_fz_3 : AU X_fz_3 R_fz) (x : X_fz_4) : (tt_fz_4 D_fz_3 x).AJ :=
 TT.sJ
def D_fz_4 (D_fz_3 : AU X_fz_3 R_fz) : AU X_fz_4 R_fz := .of (tt_fz_4 D_fz_3)
theorem ok_fz_4 (D_fz_3 : AU X_fz_3 R_fz) (h_3 : AY J_fz S_fz_3 D_fz_3) : AY J_fz S_fz_4 (D_fz_4 D_fz_3) :=
 lk mxk (lbc h_3 rfl lbn) (sd_fz_4 D_fz_3)
def tt_fz_3 (D_fz_3 : AU X_fz_3 R_fz) (x : X_fz_3) : TT Tryz.prog R_fz :=
 (.ite (Bq x.Lc ((x.A9.n : Nat) : Int))
 (.need (A6 x.Lc x.A9.n) <|
 (.call con_f19 (x.Fy, (x.Dv.State, (x.Bl, (x.A9.get (Int.toNat x.Lc))))) fun (y2 : R_f19) =>
 (.need (A6 x.Lc x.A9.n) <|
 (.ite y2.snd
 (.call con_f4g (x.Fy, (x.Dv.State, y2.fst)) fun (y3 : R_f4g) =>
 (.need (true && (room (x.Dv.Ay.n + 1) 40)) <|
 (.AM S_fz_4 (D_fz_4 D_fz_3) (X_fz_4.mk x.Bl x.A9 x.Fy x.Lc x.FG (Ag.mk (Sl.mk (cond (Nat.beq 1 0) x.Dv.Ay.nil false) (x.Dv.Ay.n + 1) (fun i4 => (TEv.mk (cond (Nat.blt i4 x.Dv.Ay.n) (x.Dv.Ay.get i4).Thread y2.fst.Thread) (cond (Nat.blt i4 x.Dv.Ay.n) (x.Dv.Ay.get i4).Kind y2.fst.Kind) (cond (Nat.blt i4 x.Dv.Ay.n) (x.Dv.Ay.get i4).Ring y2.fst.Ring) (cond (Nat.blt i4 x.Dv.Ay.n) (x.Dv.Ay.get i4).AG y2.fst.AG) (cond (Nat.blt i4 x.Dv.Ay.n) (x.Dv.Ay.get i4).Value y2.fst.Value)))) y3.snd x.Dv.Idle x.Dv.Bd)))))
 (.ite (Bq (x.A9.get (Int.toNat x.Lc)).Bj 0)
 (.AM S_fz_4 (D_fz_4 D_fz_3) (X_fz_4.mk x.Bl x.A9 x.Fy x.Lc x.FG (Ag.mk x.Dv.Ay x.Dv.State (IntKind.i64.wrap (x.Dv.Idle + 1)) x.Dv.Bd)))
 (.ite (Bw ((x.Dv.State.AB.n : Nat) : Int) (x.A9.get (Int.toNat x.Lc)).Bj)
 (.AM S_fz_4 (D_fz_4 D_fz_3) (X_fz_4.mk x.Bl x.A9 x.Fy x.Lc x.FG (Ag.mk x.Dv.Ay x.Dv.State (IntKind.i64.wrap (x.Dv.Idle + 1)) x.Dv.Bd)))
 (.need (A6 (x.A9.get (Int.toNat x.Lc)).Bj x.Dv.State.AB.n) <|
 (.ite (!(AW (x.Dv.State.AB.get (Int.toNat (x.A9.get (Int.toNat x.Lc)).Bj)).Status 0))
 (.AM S_fz_4 (D_fz_4 D_fz_3) (X_fz_4.mk x.Bl x.A9 x.Fy x.Lc x.FG (Ag.mk x.Dv.Ay x.Dv.State (IntKind.i64.wrap (x.Dv.Idle + 1)) x.Dv.Bd)))
 (.AM S_fz_4 (D_fz_4 D_fz_3) (X_fz_4.mk x.Bl x.A9 x.Fy x.Lc x.FG (Ag.mk x.Dv.Ay x.Dv.State x.Dv.Idle (IntKind.i64.wrap (x.Dv.Bd + 1)))))))))))))
 (.ret x.Dv))
theorem sd_fz_3 (D_fz_3 : AU X_fz_3 R_fz) (x : X_fz_3) : (tt_fz_3 D_fz_3 x).AJ :=
 (TT.sI (TT.sN (TT.sC fun _ => (TT.sN (TT.sI (TT.sC fun _ => (TT.sN TT.sJ)) (TT.sI TT.sJ (TT.sI TT.sJ (TT.sN (TT.sI TT.sJ TT.sJ)))))))) TT.sR)
def D_fz_3 : AU X_fz_3 R_fz := AU.loop tt_fz_3
theorem ok_fz_3 : AY J_fz S_fz_3 D_fz_3 :=
 A8 fun D_fz_3 h_3 => lk mxk (lbc h_3 rfl (lbc (ok_fz_4 D_fz_3 h_3) rfl lbn)) (sd_fz_3 D_fz_3)
def tt_fz (x : X_fz) : TT Tryz.prog R_fz :=
 (.call con_f2m x.fst fun (y1 : R_f2m) =>
 (.AM S_fz_3 D_fz_3 (X_fz_3.mk x.snd.fst x.snd.snd x.fst 0 (Ag.mk (Sl.mk true 0 (fun _i2 => (TEv.mk 0 0 0 0 0))) (TSt.mk (Sl.mk true 0 (fun _i2 => (TTh.mk 0 0 0 0 0 (fun _i3 => (0 : Int)) (Sl.mk true 0 (fun _i3 => (0 : Int)))))) (Sl.mk true 0 (fun _i2 => (TRs.mk 0 (Sl.mk true 0 (fun _i3 => (0 : Int))) false (Sl.mk true 0 (fun _i3 => (TSo.mk 0 0 0)))))) 0 0 false) 0 0) (Ag.mk (Sl.mk true 0 (fun _i2 => (TEv.mk 0 0 0 0 0))) y1 0 0))))
theorem sd_fz (x : X_fz) : (tt_fz x).AJ :=
 (TT.sC fun _ => TT.sJ)
def D_fz : AU X_fz R_fz := .of tt_fz
def con_fz : BE Tryz.prog :=
 B2 25 J_fz S_fz D_fz 3 0 [sh_TPg, BP, Bu] (lk mxk (lbc ok_fz_3 rfl lbn) sd_fz)
abbrev X_f28 : Type := (Sl Int) × (Sl Int)
abbrev R_f28 : Type := Bool
def J_f28 : BM Tryz.prog :=
 BS Tryz.prog Tryz.f29 26 [] [] [] [] [.any] [] [] R_f28 [] fun y => [V.bool y]
def S_f28 : AO :=
 Aj Tryz.f29 2 0 X_f28 (fun x => [BG x.1, BG x.2]) fun l => (Bc (at_ l 0), Bc (at_ l 1))
structure X_f28_4 where
 L2 : (Sl Int)
 M1 : (Sl Int)
 D0 : Int
def S_f28_4 : AO :=
 Ad Tryz.f29 4 [(0, BP), (1, BP), (5, .any)] [] [] X_f28_4 (fun x => [BG x.L2, BG x.M1, (V.int .i64) x.D0]) fun l => ⟨Bc (at_ l 0), Bc (at_ l 1), dI (at_ l 2)⟩
def tt_f28_4 (D_f28_4 : AU X_f28_4 R_f28) (x : X_f28_4) : TT Tryz.prog R_f28 :=
 (.ite (Bq x.D0 ((x.L2.n : Nat) : Int))
 (.need (A6 x.D0 x.L2.n) <|
 (.need (A6 x.D0 x.M1.n) <|
 (.ite (!(AW (x.L2.get (Int.toNat x.D0)) (x.M1.get (Int.toNat x.D0))))
 (.ret false)
 (.AM S_f28_4 D_f28_4 (X_f28_4.mk x.L2 x.M1 (IntKind.i64.wrap (x.D0 + 1)))))))
 (.ret true))
theorem sd_f28_4 (D_f28_4 : AU X_f28_4 R_f28) (x : X_f28_4) : (tt_f28_4 D_f28_4 x).AJ :=
 (TT.sI (TT.sN (TT.sN (TT.sI TT.sR TT.sJ))) TT.sR)
def D_f28_4 : AU X_f28_4 R_f28 := AU.loop tt_f28_4
theorem ok_f28_4 : AY J_f28 S_f28_4 D_f28_4 :=
 A8 fun D_f28_4 h_4 => lk mxk (lbc h_4 rfl lbn) (sd_f28_4 D_f28_4)
def tt_f28 (x : X_f28) : TT Tryz.prog R_f28 :=
 (.ite (!(AW ((x.fst.n : Nat) : Int) ((x.snd.n : Nat) : Int)))
 (.ret false)
 (.AM S_f28_4 D_f28_4 (X_f28_4.mk x.fst x.snd 0)))
theorem sd_f28 (x : X_f28) : (tt_f28 x).AJ :=
 (TT.sI TT.sR TT.sJ)
def D_f28 : AU X_f28 R_f28 := .of tt_f28
def con_f28 : BE Tryz.prog :=
 B2 29 J_f28 S_f28 D_f28 2 0 [BP, BP] (lk mxk (lbc ok_f28_4 rfl lbn) sd_f28)
abbrev X_f4a : Type := TTh × TTh
abbrev R_f4a : Type := Bool
def J_f4a : BM Tryz.prog :=
 BS Tryz.prog Tryz.f44 52 [(2, 3), (3, 3)] [] [] [] [.any] [] [con_f28] R_f4a [] fun y => [V.bool y]
def S_f4a : AO :=
 Aj Tryz.f44 2 0 X_f4a (fun x => [e_TTh x.1, e_TTh x.2]) fun l => (d_TTh (at_ l 0), d_TTh (at_ l 1))
def tt_f4a (x : X_f4a) : TT Tryz.prog R_f4a :=
 (.ite (AW x.fst.At x.snd.At)
 (.ite (AW x.fst.Phase x.snd.Phase)
 (.ite (AW x.fst.Ring x.snd.Ring)
 (.ite (AW x.fst.Status x.snd.Status)
 (.ite (AW x.fst.AG x.snd.AG)
 (.ite ((AW (x.fst.Ae 0) (x.snd.Ae 0)) && ((AW (x.fst.Ae 1) (x.snd.Ae 1)) && ((AW (x.fst.Ae 2) (x.snd.Ae 2)) && ((AW (x.fst.Ae 3) (x.snd.Ae 3)) && ((AW (x.fst.Ae 4) (x.snd.Ae 4)) && ((AW (x.fst.Ae 5) (x.snd.Ae 5)) && ((AW (x.fst.Ae 6) (x.snd.Ae 6)) && ((AW (x.fst.Ae 7) (x.snd.Ae 7)) && true))))))))
 (.call con_f28 (x.fst.Seen, x.snd.Seen) fun (y1 : R_f28) =>
 (.ret y1))
 (.ret false))
 (.ret false))
 (.ret false))
 (.ret false))
 (.ret false))
 (.ret false))
theorem sd_f4a (x : X_f4a) : (tt_f4a x).AJ :=
 (TT.sI (TT.sI (TT.sI (TT.sI (TT.sI (TT.sI (TT.sC fun _ => TT.sR) TT.sR) TT.sR) TT.sR) TT.sR) TT.sR) TT.sR)
def D_f4a : AU X_f4a R_f4a := .of tt_f4a
def con_f4a : BE Tryz.prog :=
 B2 44 J_f4a S_f4a D_f4a 2 0 [sh_TTh, sh_TTh] (lk mxk lbn sd_f4a)
abbrev X_f29 : Type := (Sl TSo) × (Sl TSo)
abbrev R_f29 : Type := Bool
def J_f29 : BM Tryz.prog :=
 BS Tryz.prog Tryz.f83 26 [] [] [] [] [.any] [] [] R_f29 [] fun y => [V.bool y]
def S_f29 : AO :=
 Aj Tryz.f83 2 0 X_f29 (fun x => [esl_TSo x.1, esl_TSo x.2]) fun l => (dsl_TSo (at_ l 0), dsl_TSo (at_ l 1))
structure X_f29_4 where
 L2 : (Sl TSo)
 M1 : (Sl TSo)
 D0 : Int
def S_f29_4 : AO :=
 Ad Tryz.f83 4 [(0, hsl_TSo), (1, hsl_TSo), (5, .any)] [] [] X_f29_4 (fun x => [esl_TSo x.L2, esl_TSo x.M1, (V.int .i64) x.D0]) fun l => ⟨dsl_TSo (at_ l 0), dsl_TSo (at_ l 1), dI (at_ l 2)⟩
def tt_f29_4 (D_f29_4 : AU X_f29_4 R_f29) (x : X_f29_4) : TT Tryz.prog R_f29 :=
 (.ite (Bq x.D0 ((x.L2.n : Nat) : Int))
 (.need (A6 x.D0 x.L2.n) <|
 (.need (A6 x.D0 x.M1.n) <|
 (.ite (!((AW (x.L2.get (Int.toNat x.D0)).AP (x.M1.get (Int.toNat x.D0)).AP) && ((AW (x.L2.get (Int.toNat x.D0)).Value (x.M1.get (Int.toNat x.D0)).Value) && ((AW (x.L2.get (Int.toNat x.D0)).Left (x.M1.get (Int.toNat x.D0)).Left) && true))))
 (.ret false)
 (.AM S_f29_4 D_f29_4 (X_f29_4.mk x.L2 x.M1 (IntKind.i64.wrap (x.D0 + 1)))))))
 (.ret true))
theorem sd_f29_4 (D_f29_4 : AU X_f29_4 R_f29) (x : X_f29_4) : (tt_f29_4 D_f29_4 x).AJ :=
 (TT.sI (TT.sN (TT.sN (TT.sI TT.sR TT.sJ))) TT.sR)
def D_f29_4 : AU X_f29_4 R_f29 := AU.loop tt_f29_4
theorem ok_f29_4 : AY J_f29 S_f29_4 D_f29_4 :=
 A8 fun D_f29_4 h_4 => lk mxk (lbc h_4 rfl lbn) (sd_f29_4 D_f29_4)
def tt_f29 (x : X_f29) : TT Tryz.prog R_f29 :=
 (.ite (!(AW ((x.fst.n : Nat) : Int) ((x.snd.n : Nat) : Int)))
 (.ret false)
 (.AM S_f29_4 D_f29_4 (X_f29_4.mk x.fst x.snd 0)))
theorem sd_f29 (x : X_f29) : (tt_f29 x).AJ :=
 (TT.sI TT.sR TT.sJ)
def D_f29 : AU X_f29 R_f29 := .of tt_f29
def con_f29 : BE Tryz.prog :=
 B2 83 J_f29 S_f29 D_f29 2 0 [hsl_TSo, hsl_TSo] (lk mxk (lbc ok_f29_4 rfl lbn) sd_f29)
abbrev X_f1h : Type := TRs × TRs
abbrev R_f1h : Type := Bool
def J_f1h : BM Tryz.prog :=
 BS Tryz.prog Tryz.f45 53 [(2, 3), (3, 3)] [] [] [] [.any] [] [con_f29] R_f1h [] fun y => [V.bool y]
def S_f1h : AO :=
 Aj Tryz.f45 2 0 X_f1h (fun x => [e_TRs x.1, e_TRs x.2]) fun l => (d_TRs (at_ l 0), d_TRs (at_ l 1))
structure X_f1h_3 where
 Df : TRs
 Kn : TRs
def S_f1h_3 : AO :=
 Ad Tryz.f45 3 (an [2, 3]) [] [] X_f1h_3 (fun x => [(Ch e_TRs) x.Df, (Ch e_TRs) x.Kn]) fun l => ⟨(Ci d_TRs) (at_ l 0), (Ci d_TRs) (at_ l 1)⟩
structure X_f1h_4 where
 Df : TRs
 Kn : TRs
 D0 : Int
def S_f1h_4 : AO :=
 Ad Tryz.f45 4 (an [2, 3, 5]) [] [] X_f1h_4 (fun x => [(Ch e_TRs) x.Df, (Ch e_TRs) x.Kn, (V.int .i64) x.D0]) fun l => ⟨(Ci d_TRs) (at_ l 0), (Ci d_TRs) (at_ l 1), dI (at_ l 2)⟩
def tt_f1h_4 (D_f1h_4 : AU X_f1h_4 R_f1h) (x : X_f1h_4) : TT Tryz.prog R_f1h :=
 (.ite (Bq x.D0 ((x.Df.AV.n : Nat) : Int))
 (.need (A6 x.D0 x.Df.AV.n) <|
 (.need (A6 x.D0 x.Kn.AV.n) <|
 (.ite (!(AW (x.Df.AV.get (Int.toNat x.D0)) (x.Kn.AV.get (Int.toNat x.D0))))
 (.ret false)
 (.AM S_f1h_4 D_f1h_4 (X_f1h_4.mk x.Df x.Kn (IntKind.i64.wrap (x.D0 + 1)))))))
 (.ret true))
theorem sd_f1h_4 (D_f1h_4 : AU X_f1h_4 R_f1h) (x : X_f1h_4) : (tt_f1h_4 D_f1h_4 x).AJ :=
 (TT.sI (TT.sN (TT.sN (TT.sI TT.sR TT.sJ))) TT.sR)
def D_f1h_4 : AU X_f1h_4 R_f1h := AU.loop tt_f1h_4
theorem ok_f1h_4 : AY J_f1h S_f1h_4 D_f1h_4 :=
 A8 fun D_f1h_4 h_4 => lk mxk (lbc h_4 rfl lbn) (sd_f1h_4 D_f1h_4)
def tt_f1h_3 (x : X_f1h_3) : TT Tryz.prog R_f1h :=
 (.AM S_f1h_4 D_f1h_4 (X_f1h_4.mk x.Df x.Kn 0))
theorem sd_f1h_3 (x : X_f1h_3) : (tt_f1h_3 x).AJ :=
 TT.sJ
def D_f1h_3 : AU X_f1h_3 R_f1h := .of tt_f1h_3
theorem ok_f1h_3 : AY J_f1h S_f1h_3 D_f1h_3 :=
 lk mxk (lbc ok_f1h_4 rfl lbn) sd_f1h_3
def tt_f1h (x : X_f1h) : TT Tryz.prog R_f1h :=
 (.ite (!(AW x.fst.A0 x.snd.A0))
 (.ret false)
 (.ite (!(x.fst.As == x.snd.As))
 (.ret false)
 (.ite (!(AW ((x.fst.AV.n : Nat) : Int) ((x.snd.AV.n : Nat) : Int)))
 (.ret false)
 (.call con_f29 (x.fst.Al, x.snd.Al) fun (y1 : R_f29) =>
 (.ite (!y1)
 (.ret false)
 (.AM S_f1h_3 D_f1h_3 (X_f1h_3.mk x.fst x.snd)))))))
theorem sd_f1h (x : X_f1h) : (tt_f1h x).AJ :=
 (TT.sI TT.sR (TT.sI TT.sR (TT.sI TT.sR (TT.sC fun _ => (TT.sI TT.sR TT.sJ)))))
def D_f1h : AU X_f1h R_f1h := .of tt_f1h
def con_f1h : BE Tryz.prog :=
 B2 45 J_f1h S_f1h D_f1h 2 0 [sh_TRs, sh_TRs] (lk mxk (lbc ok_f1h_4 rfl (lbc ok_f1h_3 rfl lbn)) sd_f1h)
abbrev X_fi : Type := TSt × TSt
abbrev R_fi : Type := Bool
def J_fi : BM Tryz.prog :=
 BS Tryz.prog Tryz.f16 82 [(2, 3), (3, 3)] [] [] [] [.any] [] [con_f1h, con_f4a] R_fi [] fun y => [V.bool y]
def S_fi : AO :=
 Aj Tryz.f16 2 0 X_fi (fun x => [e_TSt x.1, e_TSt x.2]) fun l => (d_TSt (at_ l 0), d_TSt (at_ l 1))
structure X_fi_3 where
 Df : TSt
 Kn : TSt
def S_fi_3 : AO :=
 Ad Tryz.f16 3 (an [2, 3]) [] [] X_fi_3 (fun x => [(Ch e_TSt) x.Df, (Ch e_TSt) x.Kn]) fun l => ⟨(Ci d_TSt) (at_ l 0), (Ci d_TSt) (at_ l 1)⟩
structure X_fi_4 where
 Df : TSt
 Kn : TSt
 D0 : Int
def S_fi_4 : AO :=
 Ad Tryz.f16 4 (an [2, 3, 5]) [] [] X_fi_4 (fun x => [(Ch e_TSt) x.Df, (Ch e_TSt) x.Kn, (V.int .i64) x.D0]) fun l => ⟨(Ci d_TSt) (at_ l 0), (Ci d_TSt) (at_ l 1), dI (at_ l 2)⟩
structure X_fi_8 where
 Df : TSt
 Kn : TSt
def S_fi_8 : AO :=
 Ad Tryz.f16 8 (an [2, 3]) [] [] X_fi_8 (fun x => [(Ch e_TSt) x.Df, (Ch e_TSt) x.Kn]) fun l => ⟨(Ci d_TSt) (at_ l 0), (Ci d_TSt) (at_ l 1)⟩
structure X_fi_9 where
 Df : TSt
 Kn : TSt
 Kj : Int
def S_fi_9 : AO :=
 Ad Tryz.f16 9 (an [2, 3, 6]) [] [] X_fi_9 (fun x => [(Ch e_TSt) x.Df, (Ch e_TSt) x.Kn, (V.int .i64) x.Kj]) fun l => ⟨(Ci d_TSt) (at_ l 0), (Ci d_TSt) (at_ l 1), dI (at_ l 2)⟩
def tt_fi_9 (D_fi_9 : AU X_fi_9 R_fi) (x : X_fi_9) : TT Tryz.prog R_fi :=
 (.ite (Bq x.Kj ((x.Df.AF.n : Nat) : Int))
 (.need (A6 x.Kj x.Df.AF.n) <|
 (.need (A6 x.Kj x.Kn.AF.n) <|
 (.call con_f1h ((x.Df.AF.get (Int.toNat x.Kj)), (x.Kn.AF.get (Int.toNat x.Kj))) fun (y2 : R_f1h) =>
 (.ite (!y2)
 (.ret false)
 (.AM S_fi_9 D_fi_9 (X_fi_9.mk x.Df x.Kn (IntKind.i64.wrap (x.Kj + 1))))))))
 (.ret true))
theorem sd_fi_9 (D_fi_9 : AU X_fi_9 R_fi) (x : X_fi_9) : (tt_fi_9 D_fi_9 x).AJ :=
 (TT.sI (TT.sN (TT.sN (TT.sC fun _ => (TT.sI TT.sR TT.sJ)))) TT.sR)
def D_fi_9 : AU X_fi_9 R_fi := AU.loop tt_fi_9
theorem ok_fi_9 : AY J_fi S_fi_9 D_fi_9 :=
 A8 fun D_fi_9 h_9 => lk mxk (lbc h_9 rfl lbn) (sd_fi_9 D_fi_9)
def tt_fi_8 (x : X_fi_8) : TT Tryz.prog R_fi :=
 (.AM S_fi_9 D_fi_9 (X_fi_9.mk x.Df x.Kn 0))
theorem sd_fi_8 (x : X_fi_8) : (tt_fi_8 x).AJ :=
 TT.sJ
def D_fi_8 : AU X_fi_8 R_fi := .of tt_fi_8
theorem ok_fi_8 : AY J_fi S_fi_8 D_fi_8 :=
 lk mxk (lbc ok_fi_9 rfl lbn) sd_fi_8
def tt_fi_4 (D_fi_4 : AU X_fi_4 R_fi) (x : X_fi_4) : TT Tryz.prog R_fi :=
 (.ite (Bq x.D0 ((x.Df.AB.n : Nat) : Int))
 (.need (A6 x.D0 x.Df.AB.n) <|
 (.need (A6 x.D0 x.Kn.AB.n) <|
 (.call con_f4a ((x.Df.AB.get (Int.toNat x.D0)), (x.Kn.AB.get (Int.toNat x.D0))) fun (y2 : R_f4a) =>
 (.ite (!y2)
 (.ret false)
 (.AM S_fi_4 D_fi_4 (X_fi_4.mk x.Df x.Kn (IntKind.i64.wrap (x.D0 + 1))))))))
 (.AM S_fi_8 D_fi_8 (X_fi_8.mk x.Df x.Kn)))
theorem sd_fi_4 (D_fi_4 : AU X_fi_4 R_fi) (x : X_fi_4) : (tt_fi_4 D_fi_4 x).AJ :=
 (TT.sI (TT.sN (TT.sN (TT.sC fun _ => (TT.sI TT.sR TT.sJ)))) TT.sJ)
def D_fi_4 : AU X_fi_4 R_fi := AU.loop tt_fi_4
theorem ok_fi_4 : AY J_fi S_fi_4 D_fi_4 :=
 A8 fun D_fi_4 h_4 => lk mxk (lbc h_4 rfl (lbc ok_fi_9 rfl (lbc ok_fi_8 rfl lbn))) (sd_fi_4 D_fi_4)
def tt_fi_3 (x : X_fi_3) : TT Tryz.prog R_fi :=
 (.AM S_fi_4 D_fi_4 (X_fi_4.mk x.Df x.Kn 0))
theorem sd_fi_3 (x : X_fi_3) : (tt_fi_3 x).AJ :=
 TT.sJ
def D_fi_3 : AU X_fi_3 R_fi := .of tt_fi_3
theorem ok_fi_3 : AY J_fi S_fi_3 D_fi_3 :=
 lk mxk (lbc ok_fi_9 rfl (lbc ok_fi_8 rfl (lbc ok_fi_4 rfl lbn))) sd_fi_3
def tt_fi (x : X_fi) : TT Tryz.prog R_fi :=
 (.ite (!(AW ((x.fst.AB.n : Nat) : Int) ((x.snd.AB.n : Nat) : Int)))
 (.ret false)
 (.ite (!(AW ((x.fst.AF.n : Nat) : Int) ((x.snd.AF.n : Nat) : Int)))
 (.ret false)
 (.ite (!(AW x.fst.Ec x.snd.Ec))
 (.ret false)
 (.ite (!(AW x.fst.Reads x.snd.Reads))
 (.ret false)
 (.ite (!(x.fst.BO == x.snd.BO))
 (.ret false)
 (.AM S_fi_3 D_fi_3 (X_fi_3.mk x.fst x.snd)))))))
theorem sd_fi (x : X_fi) : (tt_fi x).AJ :=
 (TT.sI TT.sR (TT.sI TT.sR (TT.sI TT.sR (TT.sI TT.sR (TT.sI TT.sR TT.sJ)))))
def D_fi : AU X_fi R_fi := .of tt_fi
def con_fi : BE Tryz.prog :=
 B2 16 J_fi S_fi D_fi 2 0 [sh_TSt, sh_TSt] (lk mxk (lbc ok_fi_9 rfl (lbc ok_fi_8 rfl (lbc ok_fi_4 rfl (lbc ok_fi_3 rfl lbn)))) sd_fi)
abbrev X_f4l : Type := TPg × (Sl Int) × (Sl AZ) × AZ
abbrev R_f4l : Type := Bool
def J_f4l : BM Tryz.prog :=
 BS Tryz.prog Tryz.f6 108 [(4, 3), (7, 3), (33, 1), (40, 1), (53, 1), (54, 1)] [] [] [] [.any] [] [con_f24, con_fi, con_fz, con_f3i, con_f4k, con_fd] R_f4l [] fun y => [V.bool y]
def S_f4l : AO :=
 Aj Tryz.f6 4 0 X_f4l (fun x => [e_TPg x.1, BG x.2.1, BX x.2.2.1, Bg x.2.2.2]) fun l => (d_TPg (at_ l 0), Bc (at_ l 1), B8 (at_ l 2), Bo (at_ l 3))
structure X_f4l_3 where
 Bl : (Sl Int)
 A9 : (Sl AZ)
 UJ : TPg
 PV : AZ
def S_f4l_3 : AO :=
 Ad Tryz.f6 3 [(1, BP), (2, Bu), (4, .any), (7, .any)] [] [] X_f4l_3 (fun x => [BG x.Bl, BX x.A9, (Ch e_TPg) x.UJ, (Ch Bg) x.PV]) fun l => ⟨Bc (at_ l 0), B8 (at_ l 1), (Ci d_TPg) (at_ l 2), (Ci Bo) (at_ l 3)⟩
structure X_f4l_7 where
 Wv : Int
 Wp : Bool
 Wu : Ap
 S8 : Ap
def S_f4l_7 : AO :=
 Ad Tryz.f6 7 (an [9, 11, 12, 14]) [] [(.loc 9 0, DB), (.loc 11 0, DB)] X_f4l_7 (fun x => [(V.ptr (.loc 9 0) []), (V.ptr (.loc 11 0) []), (V.int .i64) x.Wv, V.bool x.Wp, Cx x.Wu, Cx x.S8]) fun l => ⟨dI (at_ l 2), dB (at_ l 3), CW (at_ l 4), CW (at_ l 5)⟩
def tt_f4l_7 (x : X_f4l_7) : TT Tryz.prog R_f4l :=
 (.ite (AW x.Wv 0)
 (.ite (x.Wp == (AW x.S8.Idle (IntKind.i64.wrap (x.Wu.Idle + 1))))
 (.ite (!x.Wp)
 (.ret true)
 (.call con_f24 (x.Wu.Ay, x.S8.Ay) fun (y1 : R_f24) =>
 (.ite y1
 (.call con_fi (x.Wu.State, x.S8.State) fun (y2 : R_fi) =>
 (.ret y2))
 (.ret false))))
 (.ret false))
 (.ret false))
theorem sd_f4l_7 (x : X_f4l_7) : (tt_f4l_7 x).AJ :=
 (TT.sI (TT.sI (TT.sI TT.sR (TT.sC fun _ => (TT.sI (TT.sC fun _ => TT.sR) TT.sR))) TT.sR) TT.sR)
def D_f4l_7 : AU X_f4l_7 R_f4l := .of tt_f4l_7
theorem ok_f4l_7 : AY J_f4l S_f4l_7 D_f4l_7 :=
 lk mxk lbn sd_f4l_7
def tt_f4l_3 (x : X_f4l_3) : TT Tryz.prog R_f4l :=
 (.call con_fd (x.UJ, (x.Bl, x.A9)) fun (y1 : R_fd) =>
 (.need (true && (room ((0 : Nat) + x.A9.n) 32)) <|
 (.need (true && (room (((0 : Nat) + x.A9.n) + 1) 32)) <|
 (.call con_fd (x.UJ, (x.Bl, (Sl.mk (cond (Nat.beq 1 0) (cond (Nat.beq x.A9.n 0) false false) false) (((0 : Nat) + x.A9.n) + 1) (fun i2 => (AZ.mk (cond (Nat.blt i2 ((0 : Nat) + x.A9.n)) (cond (Nat.blt i2 0) (0 : Int) (x.A9.get (i2 - 0)).Bj) x.PV.Bj) (cond (Nat.blt i2 ((0 : Nat) + x.A9.n)) (cond (Nat.blt i2 0) (0 : Int) (x.A9.get (i2 - 0)).Du) x.PV.Du) (cond (Nat.blt i2 ((0 : Nat) + x.A9.n)) (cond (Nat.blt i2 0) (0 : Int) (x.A9.get (i2 - 0)).Gj) x.PV.Gj) (cond (Nat.blt i2 ((0 : Nat) + x.A9.n)) (cond (Nat.blt i2 0) false (x.A9.get (i2 - 0)).Hh) x.PV.Hh)))))) fun (y2 : R_fd) =>
 (.call con_fz (x.UJ, (x.Bl, x.A9)) fun (y3 : R_fz) =>
 (.ite (Bq x.PV.Bj 0)
 (.AM S_f4l_7 D_f4l_7 (X_f4l_7.mk y2.snd true y1.fst y2.fst))
 (.ite (Bw ((x.UJ.AB.n : Nat) : Int) x.PV.Bj)
 (.AM S_f4l_7 D_f4l_7 (X_f4l_7.mk y2.snd true y1.fst y2.fst))
 (.need (A6 x.PV.Bj y3.State.AB.n) <|
 (.AM S_f4l_7 D_f4l_7 (X_f4l_7.mk y2.snd (!(AW (y3.State.AB.get (Int.toNat x.PV.Bj)).Status 0)) y1.fst y2.fst))))))))))
theorem sd_f4l_3 (x : X_f4l_3) : (tt_f4l_3 x).AJ :=
 (TT.sC fun _ => (TT.sN (TT.sN (TT.sC fun _ => (TT.sC fun _ => (TT.sI TT.sJ (TT.sI TT.sJ (TT.sN TT.sJ))))))))
def D_f4l_3 : AU X_f4l_3 R_f4l := .of tt_f4l_3
theorem ok_f4l_3 : AY J_f4l S_f4l_3 D_f4l_3 :=
 lk mxk (lbc ok_f4l_7 rfl lbn) sd_f4l_3
def tt_f4l (x : X_f4l) : TT Tryz.prog R_f4l :=
 (.call con_f3i PUnit.unit fun (y1 : R_f3i) =>
 (.ite (!y1)
 (.call con_f3i PUnit.unit fun (y2 : R_f3i) =>
 (.ret y2))
 (.call con_f4k x.fst fun (y2 : R_f4k) =>
 (.ite (!y2)
 (.call con_f3i PUnit.unit fun (y3 : R_f3i) =>
 (.ret y3))
 (.ite (Bq 100 ((x.snd.fst.n : Nat) : Int))
 (.call con_f3i PUnit.unit fun (y3 : R_f3i) =>
 (.ret y3))
 (.ite (Bq 100 ((x.snd.snd.fst.n : Nat) : Int))
 (.call con_f3i PUnit.unit fun (y3 : R_f3i) =>
 (.ret y3))
 (.AM S_f4l_3 D_f4l_3 (X_f4l_3.mk x.snd.fst x.snd.snd.fst x.fst x.snd.snd.snd))))))))
theorem sd_f4l (x : X_f4l) : (tt_f4l x).AJ :=
 (TT.sC fun _ => (TT.sI (TT.sC fun _ => TT.sR) (TT.sC fun _ => (TT.sI (TT.sC fun _ => TT.sR) (TT.sI (TT.sC fun _ => TT.sR) (TT.sI (TT.sC fun _ => TT.sR) TT.sJ))))))
def D_f4l : AU X_f4l R_f4l := .of tt_f4l
def con_f4l : BE Tryz.prog :=
 B2 6 J_f4l S_f4l D_f4l 4 0 [sh_TPg, BP, Bu, .any] (lk mxk (lbc ok_f4l_7 rfl (lbc ok_f4l_3 rfl lbn)) sd_f4l)
end Go.Proofs.YtiamaibincaihaaGreat
end
