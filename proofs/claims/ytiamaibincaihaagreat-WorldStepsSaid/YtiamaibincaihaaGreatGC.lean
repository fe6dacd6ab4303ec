/- What functions of the program come to, part C: no statement is proved here. -/
import Derived.Test.YtiamaibincaihaaGreatGB
noncomputable section
namespace Go.Proofs.YtiamaibincaihaaGreat
open Go Go.Vm Go.Proofs
set_option maxRecDepth 100000
abbrev X_fm : Type := TIn
abbrev R_fm : Type := Bool
def J_fm : BH Tryz.prog :=
 BN Tryz.prog Tryz.f147 49 [(1, 3)] [] [] [] [.any] [] [con_f47, con_f43] R_fm [] fun y => [V.bool y]
def S_fm : AO :=
 Ah Tryz.f147 1 0 X_fm (fun x => [e_TIn x]) fun l => (d_TIn (at_ l 0))
structure X_fm_4 where
 GD : TIn
 NU : ByteArray
def S_fm_4 : AO :=
 Ad Tryz.f147 4 (an [1, 3]) [] [] X_fm_4 (fun x => [(CU e_TIn) x.GD, V.str x.NU]) fun l => ⟨(CV d_TIn) (at_ l 0), dS (at_ l 1)⟩
structure X_fm_6 where
 NU : ByteArray
 T8 : (Sl Int)
 Rn : Int
def S_fm_6 : AO :=
 Ad Tryz.f147 6 [(3, .any), (4, QQ), (5, .any)] [] [] X_fm_6 (fun x => [V.str x.NU, QX x.T8, (V.int .i64) x.Rn]) fun l => ⟨dS (at_ l 0), QY (at_ l 1), dI (at_ l 2)⟩
structure X_fm_7 where
 NU : ByteArray
 T8 : (Sl Int)
 Rn : Int
def S_fm_7 : AO :=
 Ad Tryz.f147 7 [(3, .any), (4, QQ), (5, .any)] [] [] X_fm_7 (fun x => [V.str x.NU, QX x.T8, (V.int .i64) x.Rn]) fun l => ⟨dS (at_ l 0), QY (at_ l 1), dI (at_ l 2)⟩
def tt_fm_7 (D_fm_6 : AU X_fm_6 R_fm) (x : X_fm_7) : TT Tryz.prog R_fm :=
 (.AM S_fm_6 D_fm_6 (X_fm_6.mk x.NU x.T8 (IntKind.i64.wrap (x.Rn + 1))))
theorem sd_fm_7 (D_fm_6 : AU X_fm_6 R_fm) (x : X_fm_7) : (tt_fm_7 D_fm_6 x).AJ :=
 TT.sJ
def D_fm_7 (D_fm_6 : AU X_fm_6 R_fm) : AU X_fm_7 R_fm := .of (tt_fm_7 D_fm_6)
theorem ok_fm_7 (D_fm_6 : AU X_fm_6 R_fm) (h_6 : AY J_fm S_fm_6 D_fm_6) : AY J_fm S_fm_7 (D_fm_7 D_fm_6) :=
 lk mxk (lbc h_6 rfl lbn) (sd_fm_7 D_fm_6)
def tt_fm_6 (D_fm_6 : AU X_fm_6 R_fm) (x : X_fm_6) : TT Tryz.prog R_fm :=
 (.ite (Bg x.Rn 4)
 (.need (A3 x.Rn x.T8.n) <|
 (.ite (Bg (x.T8.get (Int.toNat x.Rn)) 0)
 (.ret false)
 (.need (A3 x.Rn x.T8.n) <|
 (.need (A3 x.Rn (ByteArray.size x.NU)) <|
 (.call con_f43 (bt x.NU (Int.toNat x.Rn)) fun (y2 : R_f43) =>
 (.ite (Bg y2 (IntKind.u64.wrap (x.T8.get (Int.toNat x.Rn))))
 (.ret false)
 (.AM S_fm_7 (D_fm_7 D_fm_6) (X_fm_7.mk x.NU x.T8 x.Rn))))))))
 (.ret true))
theorem sd_fm_6 (D_fm_6 : AU X_fm_6 R_fm) (x : X_fm_6) : (tt_fm_6 D_fm_6 x).AJ :=
 (TT.sI (TT.sN (TT.sI TT.sR (TT.sN (TT.sN (TT.sC fun _ => (TT.sI TT.sR TT.sJ)))))) TT.sR)
def D_fm_6 : AU X_fm_6 R_fm := AU.loop tt_fm_6
theorem ok_fm_6 : AY J_fm S_fm_6 D_fm_6 :=
 A5 fun D_fm_6 h_6 => lk mxk (lbc h_6 rfl (lbc (ok_fm_7 D_fm_6 h_6) rfl lbn)) (sd_fm_6 D_fm_6)
def tt_fm_4 (x : X_fm_4) : TT Tryz.prog R_fm :=
 (.AM S_fm_6 D_fm_6 (X_fm_6.mk x.NU (Sl.mk false 4 (fun i1 => (cond (Nat.beq i1 0) x.GD.A (cond (Nat.beq i1 1) x.GD.B (cond (Nat.beq i1 2) x.GD.C x.GD.D))))) 0))
theorem sd_fm_4 (x : X_fm_4) : (tt_fm_4 x).AJ :=
 TT.sJ
def D_fm_4 : AU X_fm_4 R_fm := .of tt_fm_4
theorem ok_fm_4 : AY J_fm S_fm_4 D_fm_4 :=
 lk mxk (lbc ok_fm_6 rfl lbn) sd_fm_4
def tt_fm (x : X_fm) : TT Tryz.prog R_fm :=
 (.call con_f47 x.Op fun (y1 : R_f47) =>
 (.ite (seq y1 (ByteArray.mk #[]))
 (.ret false)
 (.need (A3 4 (ByteArray.size y1)) <|
 (.call con_f43 (bt y1 (Int.toNat 4)) fun (y2 : R_f43) =>
 (.ite (Bg y2 x.K)
 (.ret false)
 (.AM S_fm_4 D_fm_4 (X_fm_4.mk x y1)))))))
theorem sd_fm (x : X_fm) : (tt_fm x).AJ :=
 (TT.sC fun _ => (TT.sI TT.sR (TT.sN (TT.sC fun _ => (TT.sI TT.sR TT.sJ)))))
def D_fm : AU X_fm R_fm := .of tt_fm
def con_fm : BC Tryz.prog :=
 Br 147 J_fm S_fm D_fm 1 0 [.any] (lk mxk (lbc ok_fm_6 rfl (lbc ok_fm_4 rfl lbn)) sd_fm)
abbrev X_f24 : Type := TPg × TIn × Int
abbrev R_f24 : Type := Int
def J_f24 : BH Tryz.prog :=
 BN Tryz.prog Tryz.f148 56 [(3, 3), (4, 3)] [] [] [] [.any] [] [] R_f24 [] fun y => [(V.int .i64) y]
def S_f24 : AO :=
 Ah Tryz.f148 3 0 X_f24 (fun x => [e_TPg x.1, e_TIn x.2.1, (V.int .i64) x.2.2]) fun l => (d_TPg (at_ l 0), d_TIn (at_ l 1), dI (at_ l 2))
structure X_f24_3 where
 Fi : TPg
 FG : TIn
def S_f24_3 : AO :=
 Ad Tryz.f148 3 (an [3, 4]) [] [] X_f24_3 (fun x => [(CU e_TPg) x.Fi, (CU e_TIn) x.FG]) fun l => ⟨(CV d_TPg) (at_ l 0), (CV d_TIn) (at_ l 1)⟩
def tt_f24_3 (x : X_f24_3) : TT Tryz.prog R_f24 :=
 (.ite (Bm 18 x.FG.Op)
 (.ite (Bm x.FG.Op 20)
 (.ite (Bm ((x.Fi.AF.n : Nat) : Int) x.FG.C)
 (.ret 7)
 (.ite (AW x.FG.Op 19)
 (.need (A3 x.FG.C x.Fi.AF.n) <|
 (.ite (Bm (IntKind.u64.wrap (x.Fi.AF.get (Int.toNat x.FG.C)).AR) x.FG.K)
 (.ret 7)
 (.ret 0)))
 (.ret 0)))
 (.ite (AW x.FG.Op 19)
 (.need (A3 x.FG.C x.Fi.AF.n) <|
 (.ite (Bm (IntKind.u64.wrap (x.Fi.AF.get (Int.toNat x.FG.C)).AR) x.FG.K)
 (.ret 7)
 (.ret 0)))
 (.ret 0)))
 (.ite (AW x.FG.Op 19)
 (.need (A3 x.FG.C x.Fi.AF.n) <|
 (.ite (Bm (IntKind.u64.wrap (x.Fi.AF.get (Int.toNat x.FG.C)).AR) x.FG.K)
 (.ret 7)
 (.ret 0)))
 (.ret 0)))
theorem sd_f24_3 (x : X_f24_3) : (tt_f24_3 x).AJ :=
 (TT.sI (TT.sI (TT.sI TT.sR (TT.sI (TT.sN (TT.sI TT.sR TT.sR)) TT.sR)) (TT.sI (TT.sN (TT.sI TT.sR TT.sR)) TT.sR)) (TT.sI (TT.sN (TT.sI TT.sR TT.sR)) TT.sR))
def D_f24_3 : AU X_f24_3 R_f24 := .of tt_f24_3
theorem ok_f24_3 : AY J_f24 S_f24_3 D_f24_3 :=
 lk mxk lbn sd_f24_3
def tt_f24 (x : X_f24) : TT Tryz.prog R_f24 :=
 (.ite (Bm 15 x.snd.fst.Op)
 (.ite (Bm x.snd.fst.Op 17)
 (.ite (Bg (IntKind.u64.wrap x.snd.snd) x.snd.fst.K)
 (.ret 5)
 (.AM S_f24_3 D_f24_3 (X_f24_3.mk x.fst x.snd.fst)))
 (.AM S_f24_3 D_f24_3 (X_f24_3.mk x.fst x.snd.fst)))
 (.AM S_f24_3 D_f24_3 (X_f24_3.mk x.fst x.snd.fst)))
theorem sd_f24 (x : X_f24) : (tt_f24 x).AJ :=
 (TT.sI (TT.sI (TT.sI TT.sR TT.sJ) TT.sJ) TT.sJ)
def D_f24 : AU X_f24 R_f24 := .of tt_f24
def con_f24 : BC Tryz.prog :=
 Br 148 J_f24 S_f24 D_f24 3 0 [sh_TPg, .any, .any] (lk mxk (lbc ok_f24_3 rfl lbn) sd_f24)
abbrev X_f2 : Type := TPg
abbrev R_f2 : Type := Int × Int × Int
def J_f2 : BH Tryz.prog :=
 BN Tryz.prog Tryz.f97 81 [(1, 3)] [] [] [] [.any, .any, .any] [] [con_fm, con_f24, con_f46] R_f2 [] fun y => [V.CN (V.cons ((V.int .i64) y.1) (V.cons ((V.int .i64) y.2.1) (V.cons ((V.int .i64) y.2.2) (V.unit))))]
def S_f2 : AO :=
 Ah Tryz.f97 1 0 X_f2 (fun x => [e_TPg x]) fun l => (d_TPg (at_ l 0))
structure X_f2_3 where
 Dr : TPg
def S_f2_3 : AO :=
 Ad Tryz.f97 3 [(1, .any)] [] [] X_f2_3 (fun x => [(CU e_TPg) x.Dr]) fun l => ⟨(CV d_TPg) (at_ l 0)⟩
structure X_f2_4 where
 Dr : TPg
 Dh : Int
def S_f2_4 : AO :=
 Ad Tryz.f97 4 (an [1, 5]) [] [] X_f2_4 (fun x => [(CU e_TPg) x.Dr, (V.int .i64) x.Dh]) fun l => ⟨(CV d_TPg) (at_ l 0), dI (at_ l 1)⟩
structure X_f2_8 where
 Dr : TPg
def S_f2_8 : AO :=
 Ad Tryz.f97 8 [(1, .any)] [] [] X_f2_8 (fun x => [(CU e_TPg) x.Dr]) fun l => ⟨(CV d_TPg) (at_ l 0)⟩
structure X_f2_9 where
 Dr : TPg
 Lg : Int
def S_f2_9 : AO :=
 Ad Tryz.f97 9 (an [1, 6]) [] [] X_f2_9 (fun x => [(CU e_TPg) x.Dr, (V.int .i64) x.Lg]) fun l => ⟨(CV d_TPg) (at_ l 0), dI (at_ l 1)⟩
structure X_f2_10 where
 Dr : TPg
 Lg : Int
def S_f2_10 : AO :=
 Ad Tryz.f97 10 (an [1, 6]) [] [] X_f2_10 (fun x => [(CU e_TPg) x.Dr, (V.int .i64) x.Lg]) fun l => ⟨(CV d_TPg) (at_ l 0), dI (at_ l 1)⟩
structure X_f2_15 where
 Dr : TPg
 Lg : Int
 Pm : (Sl TIn)
 Pn : Int
def S_f2_15 : AO :=
 Ad Tryz.f97 15 [(1, .any), (6, .any), (7, hsl_TIn), (8, .any)] [] [] X_f2_15 (fun x => [(CU e_TPg) x.Dr, (V.int .i64) x.Lg, esl_TIn x.Pm, (V.int .i64) x.Pn]) fun l => ⟨(CV d_TPg) (at_ l 0), dI (at_ l 1), dsl_TIn (at_ l 2), dI (at_ l 3)⟩
structure X_f2_16 where
 Dr : TPg
 Lg : Int
 Pm : (Sl TIn)
 Pn : Int
def S_f2_16 : AO :=
 Ad Tryz.f97 16 [(1, .any), (6, .any), (7, hsl_TIn), (8, .any)] [] [] X_f2_16 (fun x => [(CU e_TPg) x.Dr, (V.int .i64) x.Lg, esl_TIn x.Pm, (V.int .i64) x.Pn]) fun l => ⟨(CV d_TPg) (at_ l 0), dI (at_ l 1), dsl_TIn (at_ l 2), dI (at_ l 3)⟩
structure X_f2_20 where
 Dr : TPg
 Lg : Int
 Pm : (Sl TIn)
 Pn : Int
 e_9 : Int
def S_f2_20 : AO :=
 Ad Tryz.f97 20 [(1, .any), (6, .any), (7, hsl_TIn), (8, .any), (9, .any)] [] [] X_f2_20 (fun x => [(CU e_TPg) x.Dr, (V.int .i64) x.Lg, esl_TIn x.Pm, (V.int .i64) x.Pn, (V.int .i64) x.e_9]) fun l => ⟨(CV d_TPg) (at_ l 0), dI (at_ l 1), dsl_TIn (at_ l 2), dI (at_ l 3), dI (at_ l 4)⟩
def tt_f2_10 (D_f2_9 : AU X_f2_9 R_f2) (x : X_f2_10) : TT Tryz.prog R_f2 :=
 (.AM S_f2_9 D_f2_9 (X_f2_9.mk x.Dr (IntKind.i64.wrap (x.Lg + 1))))
theorem sd_f2_10 (D_f2_9 : AU X_f2_9 R_f2) (x : X_f2_10) : (tt_f2_10 D_f2_9 x).AJ :=
 TT.sJ
def D_f2_10 (D_f2_9 : AU X_f2_9 R_f2) : AU X_f2_10 R_f2 := .of (tt_f2_10 D_f2_9)
theorem ok_f2_10 (D_f2_9 : AU X_f2_9 R_f2) (h_9 : AY J_f2 S_f2_9 D_f2_9) : AY J_f2 S_f2_10 (D_f2_10 D_f2_9) :=
 lk mxk (lbc h_9 rfl lbn) (sd_f2_10 D_f2_9)
def tt_f2_16 (_D_f2_9 : AU X_f2_9 R_f2) (D_f2_15 : AU X_f2_15 R_f2) (x : X_f2_16) : TT Tryz.prog R_f2 :=
 (.AM S_f2_15 D_f2_15 (X_f2_15.mk x.Dr x.Lg x.Pm (IntKind.i64.wrap (x.Pn + 1))))
theorem sd_f2_16 (D_f2_9 : AU X_f2_9 R_f2) (D_f2_15 : AU X_f2_15 R_f2) (x : X_f2_16) : (tt_f2_16 D_f2_9 D_f2_15 x).AJ :=
 TT.sJ
def D_f2_16 (D_f2_9 : AU X_f2_9 R_f2) (D_f2_15 : AU X_f2_15 R_f2) : AU X_f2_16 R_f2 := .of (tt_f2_16 D_f2_9 D_f2_15)
theorem ok_f2_16 (D_f2_9 : AU X_f2_9 R_f2) (D_f2_15 : AU X_f2_15 R_f2) (h_9 : AY J_f2 S_f2_9 D_f2_9) (h_15 : AY J_f2 S_f2_15 D_f2_15) : AY J_f2 S_f2_16 (D_f2_16 D_f2_9 D_f2_15) :=
 lk mxk (lbc h_9 rfl (lbc h_15 rfl (lbc (ok_f2_10 D_f2_9 h_9) rfl lbn))) (sd_f2_16 D_f2_9 D_f2_15)
def tt_f2_20 (D_f2_9 : AU X_f2_9 R_f2) (D_f2_15 : AU X_f2_15 R_f2) (x : X_f2_20) : TT Tryz.prog R_f2 :=
 (.ite (!(AW x.e_9 0))
 (.ret (x.Lg, (x.Pn, x.e_9)))
 (.AM S_f2_16 (D_f2_16 D_f2_9 D_f2_15) (X_f2_16.mk x.Dr x.Lg x.Pm x.Pn)))
theorem sd_f2_20 (D_f2_9 : AU X_f2_9 R_f2) (D_f2_15 : AU X_f2_15 R_f2) (x : X_f2_20) : (tt_f2_20 D_f2_9 D_f2_15 x).AJ :=
 (TT.sI TT.sR TT.sJ)
def D_f2_20 (D_f2_9 : AU X_f2_9 R_f2) (D_f2_15 : AU X_f2_15 R_f2) : AU X_f2_20 R_f2 := .of (tt_f2_20 D_f2_9 D_f2_15)
theorem ok_f2_20 (D_f2_9 : AU X_f2_9 R_f2) (D_f2_15 : AU X_f2_15 R_f2) (h_9 : AY J_f2 S_f2_9 D_f2_9) (h_15 : AY J_f2 S_f2_15 D_f2_15) : AY J_f2 S_f2_20 (D_f2_20 D_f2_9 D_f2_15) :=
 lk mxk (lbc h_9 rfl (lbc h_15 rfl (lbc (ok_f2_10 D_f2_9 h_9) rfl (lbc (ok_f2_16 D_f2_9 D_f2_15 h_9 h_15) rfl lbn)))) (sd_f2_20 D_f2_9 D_f2_15)
def tt_f2_15 (D_f2_9 : AU X_f2_9 R_f2) (D_f2_15 : AU X_f2_15 R_f2) (x : X_f2_15) : TT Tryz.prog R_f2 :=
 (.ite (Bg x.Pn ((x.Pm.n : Nat) : Int))
 (.need (A3 x.Pn x.Pm.n) <|
 (.call con_fm (x.Pm.get (Int.toNat x.Pn)) fun (y3 : R_fm) =>
 (.ite y3
 (.need (A3 x.Pn x.Pm.n) <|
 (.call con_f24 (x.Dr, ((x.Pm.get (Int.toNat x.Pn)), ((x.Pm.n : Nat) : Int))) fun (y4 : R_f24) =>
 (.AM S_f2_20 (D_f2_20 D_f2_9 D_f2_15) (X_f2_20.mk x.Dr x.Lg x.Pm x.Pn y4))))
 (.AM S_f2_20 (D_f2_20 D_f2_9 D_f2_15) (X_f2_20.mk x.Dr x.Lg x.Pm x.Pn 6)))))
 (.AM S_f2_10 (D_f2_10 D_f2_9) (X_f2_10.mk x.Dr x.Lg)))
theorem sd_f2_15 (D_f2_9 : AU X_f2_9 R_f2) (D_f2_15 : AU X_f2_15 R_f2) (x : X_f2_15) : (tt_f2_15 D_f2_9 D_f2_15 x).AJ :=
 (TT.sI (TT.sN (TT.sC fun _ => (TT.sI (TT.sN (TT.sC fun _ => TT.sJ)) TT.sJ))) TT.sJ)
def D_f2_15 (D_f2_9 : AU X_f2_9 R_f2) : AU X_f2_15 R_f2 := AU.loop (tt_f2_15 D_f2_9)
theorem ok_f2_15 (D_f2_9 : AU X_f2_9 R_f2) (h_9 : AY J_f2 S_f2_9 D_f2_9) : AY J_f2 S_f2_15 (D_f2_15 D_f2_9) :=
 A5 fun D_f2_15 h_15 => lk mxk (lbc h_9 rfl (lbc h_15 rfl (lbc (ok_f2_10 D_f2_9 h_9) rfl (lbc (ok_f2_16 D_f2_9 D_f2_15 h_9 h_15) rfl (lbc (ok_f2_20 D_f2_9 D_f2_15 h_9 h_15) rfl lbn))))) (sd_f2_15 D_f2_9 D_f2_15)
def tt_f2_9 (D_f2_9 : AU X_f2_9 R_f2) (x : X_f2_9) : TT Tryz.prog R_f2 :=
 (.ite (Bg x.Lg ((x.Dr.AB.n : Nat) : Int))
 (.need (A3 x.Lg x.Dr.AB.n) <|
 (.ite (Bg 256 (((x.Dr.AB.get (Int.toNat x.Lg)).n : Nat) : Int))
 (.ret (x.Lg, (256, 4)))
 (.AM S_f2_15 (D_f2_15 D_f2_9) (X_f2_15.mk x.Dr x.Lg (x.Dr.AB.get (Int.toNat x.Lg)) 0))))
 (.ret (0, (0, 0))))
theorem sd_f2_9 (D_f2_9 : AU X_f2_9 R_f2) (x : X_f2_9) : (tt_f2_9 D_f2_9 x).AJ :=
 (TT.sI (TT.sN (TT.sI TT.sR TT.sJ)) TT.sR)
def D_f2_9 : AU X_f2_9 R_f2 := AU.loop tt_f2_9
theorem ok_f2_9 : AY J_f2 S_f2_9 D_f2_9 :=
 A5 fun D_f2_9 h_9 => lk mxk (lbc h_9 rfl (lbc (ok_f2_10 D_f2_9 h_9) rfl (lbc (ok_f2_15 D_f2_9 h_9) rfl lbn))) (sd_f2_9 D_f2_9)
def tt_f2_8 (x : X_f2_8) : TT Tryz.prog R_f2 :=
 (.AM S_f2_9 D_f2_9 (X_f2_9.mk x.Dr 0))
theorem sd_f2_8 (x : X_f2_8) : (tt_f2_8 x).AJ :=
 TT.sJ
def D_f2_8 : AU X_f2_8 R_f2 := .of tt_f2_8
theorem ok_f2_8 : AY J_f2 S_f2_8 D_f2_8 :=
 lk mxk (lbc ok_f2_9 rfl lbn) sd_f2_8
def tt_f2_4 (D_f2_4 : AU X_f2_4 R_f2) (x : X_f2_4) : TT Tryz.prog R_f2 :=
 (.ite (Bg x.Dh ((x.Dr.AF.n : Nat) : Int))
 (.need (A3 x.Dh x.Dr.AF.n) <|
 (.call con_f46 (x.Dr.AF.get (Int.toNat x.Dh)) fun (y2 : R_f46) =>
 (.ite (!y2)
 (.ret ((-(1 : Int)), (x.Dh, 7)))
 (.AM S_f2_4 D_f2_4 (X_f2_4.mk x.Dr (IntKind.i64.wrap (x.Dh + 1)))))))
 (.AM S_f2_8 D_f2_8 (X_f2_8.mk x.Dr)))
theorem sd_f2_4 (D_f2_4 : AU X_f2_4 R_f2) (x : X_f2_4) : (tt_f2_4 D_f2_4 x).AJ :=
 (TT.sI (TT.sN (TT.sC fun _ => (TT.sI TT.sR TT.sJ))) TT.sJ)
def D_f2_4 : AU X_f2_4 R_f2 := AU.loop tt_f2_4
theorem ok_f2_4 : AY J_f2 S_f2_4 D_f2_4 :=
 A5 fun D_f2_4 h_4 => lk mxk (lbc h_4 rfl (lbc ok_f2_9 rfl (lbc ok_f2_8 rfl lbn))) (sd_f2_4 D_f2_4)
def tt_f2_3 (x : X_f2_3) : TT Tryz.prog R_f2 :=
 (.AM S_f2_4 D_f2_4 (X_f2_4.mk x.Dr 0))
theorem sd_f2_3 (x : X_f2_3) : (tt_f2_3 x).AJ :=
 TT.sJ
def D_f2_3 : AU X_f2_3 R_f2 := .of tt_f2_3
theorem ok_f2_3 : AY J_f2 S_f2_3 D_f2_3 :=
 lk mxk (lbc ok_f2_9 rfl (lbc ok_f2_8 rfl (lbc ok_f2_4 rfl lbn))) sd_f2_3
def tt_f2 (x : X_f2) : TT Tryz.prog R_f2 :=
 (.ite (AW ((x.AB.n : Nat) : Int) 0)
 (.ret (0, (0, 1)))
 (.ite (Bg 8 ((x.AB.n : Nat) : Int))
 (.ret (0, (0, 1)))
 (.ite (Bg 8 ((x.AF.n : Nat) : Int))
 (.ret (0, (0, 1)))
 (.AM S_f2_3 D_f2_3 (X_f2_3.mk x)))))
theorem sd_f2 (x : X_f2) : (tt_f2 x).AJ :=
 (TT.sI TT.sR (TT.sI TT.sR (TT.sI TT.sR TT.sJ)))
def D_f2 : AU X_f2 R_f2 := .of tt_f2
def con_f2 : BC Tryz.prog :=
 Br 97 J_f2 S_f2 D_f2 1 0 [sh_TPg] (lk mxk (lbc ok_f2_9 rfl (lbc ok_f2_8 rfl (lbc ok_f2_4 rfl (lbc ok_f2_3 rfl lbn)))) sd_f2)
abbrev X_f41 : Type := TPg
abbrev R_f41 : Type := Bool
def J_f41 : BH Tryz.prog :=
 BN Tryz.prog Tryz.f55 14 [(1, 3), (6, 1)] [] [] [] [.any] [] [con_f2] R_f41 [] fun y => [V.bool y]
def S_f41 : AO :=
 Ah Tryz.f55 1 0 X_f41 (fun x => [e_TPg x]) fun l => (d_TPg (at_ l 0))
def tt_f41 (x : X_f41) : TT Tryz.prog R_f41 :=
 (.call con_f2 x fun (y1 : R_f2) =>
 (.ret (AW y1.snd.snd 0)))
theorem sd_f41 (x : X_f41) : (tt_f41 x).AJ :=
 (TT.sC fun _ => TT.sR)
def D_f41 : AU X_f41 R_f41 := .of tt_f41
def con_f41 : BC Tryz.prog :=
 Br 55 J_f41 S_f41 D_f41 1 0 [sh_TPg] (lk mxk lbn sd_f41)
abbrev X_f42 : Type := TPg
abbrev R_f42 : Type := Bool
def J_f42 : BH Tryz.prog :=
 BN Tryz.prog Tryz.f24 5 [(1, 3)] [] [] [] [.any] [] [con_f41] R_f42 [] fun y => [V.bool y]
def S_f42 : AO :=
 Ah Tryz.f24 1 0 X_f42 (fun x => [e_TPg x]) fun l => (d_TPg (at_ l 0))
def tt_f42 (x : X_f42) : TT Tryz.prog R_f42 :=
 (.call con_f41 x fun (y1 : R_f41) =>
 (.ret y1))
theorem sd_f42 (x : X_f42) : (tt_f42 x).AJ :=
 (TT.sC fun _ => TT.sR)
def D_f42 : AU X_f42 R_f42 := .of tt_f42
def con_f42 : BC Tryz.prog :=
 Br 24 J_f42 S_f42 D_f42 1 0 [sh_TPg] (lk mxk lbn sd_f42)
abbrev X_f4c : Type := TPg
abbrev R_f4c : Type := Bool
def J_f4c : BH Tryz.prog :=
 BN Tryz.prog Tryz.f12 9 [(1, 3)] [] [] [] [.any] [] [con_f1q, con_f42] R_f4c [] fun y => [V.bool y]
def S_f4c : AO :=
 Ah Tryz.f12 1 0 X_f4c (fun x => [e_TPg x]) fun l => (d_TPg (at_ l 0))
def tt_f4c (x : X_f4c) : TT Tryz.prog R_f4c :=
 (.call con_f1q (x, 100) fun (y1 : R_f1q) =>
 (.ite y1
 (.call con_f42 x fun (y2 : R_f42) =>
 (.ret y2))
 (.ret false)))
theorem sd_f4c (x : X_f4c) : (tt_f4c x).AJ :=
 (TT.sC fun _ => (TT.sI (TT.sC fun _ => TT.sR) TT.sR))
def D_f4c : AU X_f4c R_f4c := .of tt_f4c
def con_f4c : BC Tryz.prog :=
 Br 12 J_f4c S_f4c D_f4c 1 0 [sh_TPg] (lk mxk lbn sd_f4c)
structure TR2 where
 L : (Sl TSo)
 AR : Int
def d_TR2 (v : V) : TR2 :=
 ⟨dsl_TSo (fd v 0), dI (fd v 1)⟩
def e_TR2 (x : TR2) : V :=
 V.cons (esl_TSo x.L) (V.cons ((V.int .i64) x.AR) (V.unit))
theorem nu_e_TR2 (x : TR2) : (e_TR2 x).Ch := ⟨trivial, trivial, trivial⟩
def sh_TR2 : Sh := (.cons hsl_TSo .any)
abbrev DslA_TSo : Type := (Sl TSo)
def eslA_TSo : DslA_TSo → V := (L4 (some 175) 3 e_TSo)
def dslA_TSo : V → DslA_TSo := (Lk d_TSo)
def hslA_TSo : Sh := (.sl (some 175) 3 (e_TSo (d_TSo .undef)))
def e_TR2_0 (x : TR2) : V :=
 V.cons (eslA_TSo x.L) (V.cons ((V.int .i64) x.AR) (V.unit))
theorem nu_e_TR2_0 (x : TR2) : (e_TR2_0 x).Ch := ⟨trivial, trivial, trivial⟩
def sh_TR2_0 : Sh := (.cons hslA_TSo .any)
abbrev X_f2k : Type := Int × Int
abbrev R_f2k : Type := TR2
def J_f2k : BH Tryz.prog :=
 BN Tryz.prog Tryz.f76 24 [(15, 1)] [] [] [] [sh_TR2] [] [] R_f2k [] fun y => [e_TR2 y]
def S_f2k : AO :=
 Ah Tryz.f76 2 0 X_f2k (fun x => [(V.int .i64) x.1, (V.int .i64) x.2]) fun l => (dI (at_ l 0), dI (at_ l 1))
structure X_f2k_3 where
 E0 : Int
 KN : Int
 CP : TR2
 BD : TR2
def S_f2k_3 : AO :=
 Ad Tryz.f76 3 (an [0, 4, 5, 6]) [] [(.loc 4 0, sh_TR2), (.loc 5 0, sh_TR2_0)] X_f2k_3 (fun x => [(V.int .i64) x.E0, (V.ptr (.loc 4 0) []), (V.ptr (.loc 5 0) []), (V.int .i64) x.KN, e_TR2 x.CP, e_TR2_0 x.BD]) fun l => ⟨dI (at_ l 0), dI (at_ l 3), d_TR2 (at_ l 4), d_TR2 (at_ l 5)⟩
def tt_f2k_3 (D_f2k_3 : AU X_f2k_3 R_f2k) (x : X_f2k_3) : TT Tryz.prog R_f2k :=
 (.ite (Bg x.KN x.E0)
 (.need (true && (room (x.BD.L.n + 1) 24)) <|
 (.AM S_f2k_3 D_f2k_3 (X_f2k_3.mk x.E0 (IntKind.i64.wrap (x.KN + 1)) x.CP (TR2.mk (Sl.mk (cond (Nat.beq 1 0) x.BD.L.nil false) (x.BD.L.n + 1) (fun i2 => (TSo.mk (cond (Nat.blt i2 x.BD.L.n) (x.BD.L.get i2).AP (IntKind.u64.wrap ((2 : Int) * (IntKind.u64.wrap x.KN)))) (cond (Nat.blt i2 x.BD.L.n) (x.BD.L.get i2).Value (0 : Int)) (cond (Nat.blt i2 x.BD.L.n) (x.BD.L.get i2).Left (0 : Int))))) x.BD.AR))))
 (.ret x.BD))
theorem sd_f2k_3 (D_f2k_3 : AU X_f2k_3 R_f2k) (x : X_f2k_3) : (tt_f2k_3 D_f2k_3 x).AJ :=
 (TT.sI (TT.sN TT.sJ) TT.sR)
def D_f2k_3 : AU X_f2k_3 R_f2k := AU.loop tt_f2k_3
theorem ok_f2k_3 : AY J_f2k S_f2k_3 D_f2k_3 :=
 A5 fun D_f2k_3 h_3 => lk mxk (lbc h_3 rfl lbn) (sd_f2k_3 D_f2k_3)
def tt_f2k (x : X_f2k) : TT Tryz.prog R_f2k :=
 (.AM S_f2k_3 D_f2k_3 (X_f2k_3.mk x.fst 0 (TR2.mk (Sl.mk true 0 (fun _i1 => (TSo.mk 0 0 0))) 0) (TR2.mk (Sl.mk true 0 (fun _i1 => (TSo.mk 0 0 0))) x.snd)))
theorem sd_f2k (x : X_f2k) : (tt_f2k x).AJ :=
 TT.sJ
def D_f2k : AU X_f2k R_f2k := .of tt_f2k
def con_f2k : BC Tryz.prog :=
 Br 76 J_f2k S_f2k D_f2k 2 0 [.any, .any] (lk mxk (lbc ok_f2k_3 rfl lbn) sd_f2k)
structure TR3 where
 DE : Int
 Ax : Int
 AV : (Sl Int)
 Ao : Bool
 S : TR2
def d_TR3 (v : V) : TR3 :=
 ⟨dI (fd v 0), dI (fd v 1), BV (fd v 2), dB (fd v 3), d_TR2 (fd v 4)⟩
def e_TR3 (x : TR3) : V :=
 V.cons ((V.int .u64) x.DE) (V.cons ((V.int .u64) x.Ax) (V.cons (BB x.AV) (V.cons (V.bool x.Ao) (V.cons (e_TR2 x.S) (V.unit)))))
theorem nu_e_TR3 (x : TR3) : (e_TR3 x).Ch := ⟨trivial, trivial, trivial, trivial, (nu_e_TR2 : ∀ y, (e_TR2 y).Ch) x.S, trivial⟩
def sh_TR3 : Sh := (.cons .any (.cons .any (.cons BJ (.cons .any (.cons sh_TR2 .any)))))
abbrev X_f49 : Type := TRg
abbrev R_f49 : Type := TR3
def J_f49 : BH Tryz.prog :=
 BN Tryz.prog Tryz.f41 15 [(1, 3), (8, 2)] [] [] [] [sh_TR3] [] [con_f2k] R_f49 [] fun y => [e_TR3 y]
def S_f49 : AO :=
 Ah Tryz.f41 1 0 X_f49 (fun x => [e_TRg x]) fun l => (d_TRg (at_ l 0))
def tt_f49 (x : X_f49) : TT Tryz.prog R_f49 :=
 (.need ((((upto x.AR (Int.toNat x.AR)) && (Bm 0 x.AR)) && (room (Int.toNat x.AR) 8)) && (decide ((x.AR ≤ (9223372036854775807 : Int))))) <|
 (.call con_f2k (x.DE, x.AR) fun (y1 : R_f2k) =>
 (.ret (TR3.mk (IntKind.u64.wrap x.DE) 0 (Sl.mk false (Int.toNat x.AR) (fun _i2 => (0 : Int))) false y1))))
theorem sd_f49 (x : X_f49) : (tt_f49 x).AJ :=
 (TT.sN (TT.sC fun _ => TT.sR))
def D_f49 : AU X_f49 R_f49 := .of tt_f49
def con_f49 : BC Tryz.prog :=
 Br 41 J_f49 S_f49 D_f49 1 0 [.any] (lk mxk lbn sd_f49)
abbrev X_f3n : Type := TR3
abbrev R_f3n : Type := TRs
def J_f3n : BH Tryz.prog :=
 BN Tryz.prog Tryz.f40 17 [(1, 3)] [] [] [] [sh_TRs] [] [] R_f3n [] fun y => [e_TRs y]
def S_f3n : AO :=
 Ah Tryz.f40 1 0 X_f3n (fun x => [e_TR3 x]) fun l => (d_TR3 (at_ l 0))
def tt_f3n (x : X_f3n) : TT Tryz.prog R_f3n :=
 (.need (true && (room ((0 : Nat) + x.AV.n) 8)) <|
 (.need (true && (room ((0 : Nat) + x.S.L.n) 24)) <|
 (.ret (TRs.mk x.Ax (Sl.mk (cond (Nat.beq x.AV.n 0) false false) ((0 : Nat) + x.AV.n) (fun i1 => (cond (Nat.blt i1 0) (0 : Int) (x.AV.get (i1 - 0))))) x.Ao (Sl.mk (cond (Nat.beq x.S.L.n 0) false false) ((0 : Nat) + x.S.L.n) (fun i1 => (TSo.mk (cond (Nat.blt i1 0) (0 : Int) (x.S.L.get (i1 - 0)).AP) (cond (Nat.blt i1 0) (0 : Int) (x.S.L.get (i1 - 0)).Value) (cond (Nat.blt i1 0) (0 : Int) (x.S.L.get (i1 - 0)).Left))))))))
theorem sd_f3n (x : X_f3n) : (tt_f3n x).AJ :=
 (TT.sN (TT.sN TT.sR))
def D_f3n : AU X_f3n R_f3n := .of tt_f3n
def con_f3n : BC Tryz.prog :=
 Br 40 J_f3n S_f3n D_f3n 1 0 [sh_TR3] (lk mxk lbn sd_f3n)
abbrev X_f2l : Type := TPg
abbrev R_f2l : Type := TSt
def J_f2l : BH Tryz.prog :=
 BN Tryz.prog Tryz.f14 30 [(1, 3), (8, 2), (18, 1)] [] [] [] [sh_TSt] [] [con_f49, con_f3n] R_f2l [] fun y => [e_TSt y]
def S_f2l : AO :=
 Ah Tryz.f14 1 0 X_f2l (fun x => [e_TPg x]) fun l => (d_TPg (at_ l 0))
structure X_f2l_3 where
 Dr : TPg
 FG : Int
 Bp : TSt
 BM : TSt
def S_f2l_3 : AO :=
 Ad Tryz.f14 3 (an [1, 2, 3, 4]) [] [(.loc 2 0, sh_TSt), (.loc 3 0, sh_TSt_1)] X_f2l_3 (fun x => [(CU e_TPg) x.Dr, (V.ptr (.loc 2 0) []), (V.ptr (.loc 3 0) []), (V.int .i64) x.FG, e_TSt x.Bp, e_TSt_1 x.BM]) fun l => ⟨(CV d_TPg) (at_ l 0), dI (at_ l 3), d_TSt (at_ l 4), d_TSt (at_ l 5)⟩
def tt_f2l_3 (D_f2l_3 : AU X_f2l_3 R_f2l) (x : X_f2l_3) : TT Tryz.prog R_f2l :=
 (.ite (Bg x.FG ((x.Dr.AF.n : Nat) : Int))
 (.need (A3 x.FG x.Dr.AF.n) <|
 (.call con_f49 (x.Dr.AF.get (Int.toNat x.FG)) fun (y2 : R_f49) =>
 (.call con_f3n y2 fun (y3 : R_f3n) =>
 (.need (true && (room (x.BM.AF.n + 1) 64)) <|
 (.AM S_f2l_3 D_f2l_3 (X_f2l_3.mk x.Dr (IntKind.i64.wrap (x.FG + 1)) x.Bp (TSt.mk x.BM.AB (Sl.mk (cond (Nat.beq 1 0) x.BM.AF.nil false) (x.BM.AF.n + 1) (fun i4 => (TRs.mk (cond (Nat.blt i4 x.BM.AF.n) (x.BM.AF.get i4).Ax y3.Ax) (Sl.mk (cond (Nat.blt i4 x.BM.AF.n) (x.BM.AF.get i4).AV.nil y3.AV.nil) (cond (Nat.blt i4 x.BM.AF.n) (x.BM.AF.get i4).AV.n y3.AV.n) (fun i5 => (cond (Nat.blt i4 x.BM.AF.n) ((x.BM.AF.get i4).AV.get i5) (y3.AV.get i5)))) (cond (Nat.blt i4 x.BM.AF.n) (x.BM.AF.get i4).Ao y3.Ao) (Sl.mk (cond (Nat.blt i4 x.BM.AF.n) (x.BM.AF.get i4).Ai.nil y3.Ai.nil) (cond (Nat.blt i4 x.BM.AF.n) (x.BM.AF.get i4).Ai.n y3.Ai.n) (fun i5 => (TSo.mk (cond (Nat.blt i4 x.BM.AF.n) ((x.BM.AF.get i4).Ai.get i5).AP (y3.Ai.get i5).AP) (cond (Nat.blt i4 x.BM.AF.n) ((x.BM.AF.get i4).Ai.get i5).Value (y3.Ai.get i5).Value) (cond (Nat.blt i4 x.BM.AF.n) ((x.BM.AF.get i4).Ai.get i5).Left (y3.Ai.get i5).Left))))))) x.BM.FQ x.BM.Reads x.BM.Ba)))))))
 (.ret x.BM))
theorem sd_f2l_3 (D_f2l_3 : AU X_f2l_3 R_f2l) (x : X_f2l_3) : (tt_f2l_3 D_f2l_3 x).AJ :=
 (TT.sI (TT.sN (TT.sC fun _ => (TT.sC fun _ => (TT.sN TT.sJ)))) TT.sR)
def D_f2l_3 : AU X_f2l_3 R_f2l := AU.loop tt_f2l_3
theorem ok_f2l_3 : AY J_f2l S_f2l_3 D_f2l_3 :=
 A5 fun D_f2l_3 h_3 => lk mxk (lbc h_3 rfl lbn) (sd_f2l_3 D_f2l_3)
def tt_f2l (x : X_f2l) : TT Tryz.prog R_f2l :=
 (.need ((((upto ((x.AB.n : Nat) : Int) (Int.toNat ((x.AB.n : Nat) : Int))) && (Bm 0 ((x.AB.n : Nat) : Int))) && (room (Int.toNat ((x.AB.n : Nat) : Int)) 128)) && (decide ((((x.AB.n : Nat) : Int) ≤ (9223372036854775807 : Int))))) <|
 (.AM S_f2l_3 D_f2l_3 (X_f2l_3.mk x 0 (TSt.mk (Sl.mk true 0 (fun _i1 => (TTh.mk 0 0 0 0 0 (fun _i2 => (0 : Int)) (Sl.mk true 0 (fun _i2 => (0 : Int)))))) (Sl.mk true 0 (fun _i1 => (TRs.mk 0 (Sl.mk true 0 (fun _i2 => (0 : Int))) false (Sl.mk true 0 (fun _i2 => (TSo.mk 0 0 0)))))) 0 0 false) (TSt.mk (Sl.mk false (Int.toNat ((x.AB.n : Nat) : Int)) (fun _i1 => (TTh.mk 0 0 0 0 0 (fun _i2 => (0 : Int)) (Sl.mk true 0 (fun _i2 => (0 : Int)))))) (Sl.mk true 0 (fun _i1 => (TRs.mk 0 (Sl.mk true 0 (fun _i2 => (0 : Int))) false (Sl.mk true 0 (fun _i2 => (TSo.mk 0 0 0)))))) 0 0 false))))
theorem sd_f2l (x : X_f2l) : (tt_f2l x).AJ :=
 (TT.sN TT.sJ)
def D_f2l : AU X_f2l R_f2l := .of tt_f2l
def con_f2l : BC Tryz.prog :=
 Br 14 J_f2l S_f2l D_f2l 1 0 [sh_TPg] (lk mxk (lbc ok_f2l_3 rfl lbn) sd_f2l)
abbrev X_f26 : Type := (Sl Int) × (Sl Int)
abbrev R_f26 : Type := Bool
def J_f26 : BH Tryz.prog :=
 BN Tryz.prog Tryz.f29 26 [] [] [] [] [.any] [] [] R_f26 [] fun y => [V.bool y]
def S_f26 : AO :=
 Ah Tryz.f29 2 0 X_f26 (fun x => [BB x.1, BB x.2]) fun l => (BV (at_ l 0), BV (at_ l 1))
structure X_f26_4 where
 Lf : (Sl Int)
 Mj : (Sl Int)
 Dh : Int
def S_f26_4 : AO :=
 Ad Tryz.f29 4 [(0, BJ), (1, BJ), (5, .any)] [] [] X_f26_4 (fun x => [BB x.Lf, BB x.Mj, (V.int .i64) x.Dh]) fun l => ⟨BV (at_ l 0), BV (at_ l 1), dI (at_ l 2)⟩
def tt_f26_4 (D_f26_4 : AU X_f26_4 R_f26) (x : X_f26_4) : TT Tryz.prog R_f26 :=
 (.ite (Bg x.Dh ((x.Lf.n : Nat) : Int))
 (.need (A3 x.Dh x.Lf.n) <|
 (.need (A3 x.Dh x.Mj.n) <|
 (.ite (!(AW (x.Lf.get (Int.toNat x.Dh)) (x.Mj.get (Int.toNat x.Dh))))
 (.ret false)
 (.AM S_f26_4 D_f26_4 (X_f26_4.mk x.Lf x.Mj (IntKind.i64.wrap (x.Dh + 1)))))))
 (.ret true))
theorem sd_f26_4 (D_f26_4 : AU X_f26_4 R_f26) (x : X_f26_4) : (tt_f26_4 D_f26_4 x).AJ :=
 (TT.sI (TT.sN (TT.sN (TT.sI TT.sR TT.sJ))) TT.sR)
def D_f26_4 : AU X_f26_4 R_f26 := AU.loop tt_f26_4
theorem ok_f26_4 : AY J_f26 S_f26_4 D_f26_4 :=
 A5 fun D_f26_4 h_4 => lk mxk (lbc h_4 rfl lbn) (sd_f26_4 D_f26_4)
def tt_f26 (x : X_f26) : TT Tryz.prog R_f26 :=
 (.ite (!(AW ((x.fst.n : Nat) : Int) ((x.snd.n : Nat) : Int)))
 (.ret false)
 (.AM S_f26_4 D_f26_4 (X_f26_4.mk x.fst x.snd 0)))
theorem sd_f26 (x : X_f26) : (tt_f26 x).AJ :=
 (TT.sI TT.sR TT.sJ)
def D_f26 : AU X_f26 R_f26 := .of tt_f26
def con_f26 : BC Tryz.prog :=
 Br 29 J_f26 S_f26 D_f26 2 0 [BJ, BJ] (lk mxk (lbc ok_f26_4 rfl lbn) sd_f26)
abbrev X_f48 : Type := TTh × TTh
abbrev R_f48 : Type := Bool
def J_f48 : BH Tryz.prog :=
 BN Tryz.prog Tryz.f44 52 [(2, 3), (3, 3)] [] [] [] [.any] [] [con_f26] R_f48 [] fun y => [V.bool y]
def S_f48 : AO :=
 Ah Tryz.f44 2 0 X_f48 (fun x => [e_TTh x.1, e_TTh x.2]) fun l => (d_TTh (at_ l 0), d_TTh (at_ l 1))
def tt_f48 (x : X_f48) : TT Tryz.prog R_f48 :=
 (.ite (AW x.fst.At x.snd.At)
 (.ite (AW x.fst.Phase x.snd.Phase)
 (.ite (AW x.fst.Ring x.snd.Ring)
 (.ite (AW x.fst.Status x.snd.Status)
 (.ite (AW x.fst.AG x.snd.AG)
 (.ite ((AW (x.fst.Ae 0) (x.snd.Ae 0)) && ((AW (x.fst.Ae 1) (x.snd.Ae 1)) && ((AW (x.fst.Ae 2) (x.snd.Ae 2)) && ((AW (x.fst.Ae 3) (x.snd.Ae 3)) && ((AW (x.fst.Ae 4) (x.snd.Ae 4)) && ((AW (x.fst.Ae 5) (x.snd.Ae 5)) && ((AW (x.fst.Ae 6) (x.snd.Ae 6)) && ((AW (x.fst.Ae 7) (x.snd.Ae 7)) && true))))))))
 (.call con_f26 (x.fst.Seen, x.snd.Seen) fun (y1 : R_f26) =>
 (.ret y1))
 (.ret false))
 (.ret false))
 (.ret false))
 (.ret false))
 (.ret false))
 (.ret false))
theorem sd_f48 (x : X_f48) : (tt_f48 x).AJ :=
 (TT.sI (TT.sI (TT.sI (TT.sI (TT.sI (TT.sI (TT.sC fun _ => TT.sR) TT.sR) TT.sR) TT.sR) TT.sR) TT.sR) TT.sR)
def D_f48 : AU X_f48 R_f48 := .of tt_f48
def con_f48 : BC Tryz.prog :=
 Br 44 J_f48 S_f48 D_f48 2 0 [sh_TTh, sh_TTh] (lk mxk lbn sd_f48)
abbrev X_f27 : Type := (Sl TSo) × (Sl TSo)
abbrev R_f27 : Type := Bool
def J_f27 : BH Tryz.prog :=
 BN Tryz.prog Tryz.f83 26 [] [] [] [] [.any] [] [] R_f27 [] fun y => [V.bool y]
def S_f27 : AO :=
 Ah Tryz.f83 2 0 X_f27 (fun x => [esl_TSo x.1, esl_TSo x.2]) fun l => (dsl_TSo (at_ l 0), dsl_TSo (at_ l 1))
structure X_f27_4 where
 Lf : (Sl TSo)
 Mj : (Sl TSo)
 Dh : Int
def S_f27_4 : AO :=
 Ad Tryz.f83 4 [(0, hsl_TSo), (1, hsl_TSo), (5, .any)] [] [] X_f27_4 (fun x => [esl_TSo x.Lf, esl_TSo x.Mj, (V.int .i64) x.Dh]) fun l => ⟨dsl_TSo (at_ l 0), dsl_TSo (at_ l 1), dI (at_ l 2)⟩
def tt_f27_4 (D_f27_4 : AU X_f27_4 R_f27) (x : X_f27_4) : TT Tryz.prog R_f27 :=
 (.ite (Bg x.Dh ((x.Lf.n : Nat) : Int))
 (.need (A3 x.Dh x.Lf.n) <|
 (.need (A3 x.Dh x.Mj.n) <|
 (.ite (!((AW (x.Lf.get (Int.toNat x.Dh)).AP (x.Mj.get (Int.toNat x.Dh)).AP) && ((AW (x.Lf.get (Int.toNat x.Dh)).Value (x.Mj.get (Int.toNat x.Dh)).Value) && ((AW (x.Lf.get (Int.toNat x.Dh)).Left (x.Mj.get (Int.toNat x.Dh)).Left) && true))))
 (.ret false)
 (.AM S_f27_4 D_f27_4 (X_f27_4.mk x.Lf x.Mj (IntKind.i64.wrap (x.Dh + 1)))))))
 (.ret true))
theorem sd_f27_4 (D_f27_4 : AU X_f27_4 R_f27) (x : X_f27_4) : (tt_f27_4 D_f27_4 x).AJ :=
 (TT.sI (TT.sN (TT.sN (TT.sI TT.sR TT.sJ))) TT.sR)
def D_f27_4 : AU X_f27_4 R_f27 := AU.loop tt_f27_4
theorem ok_f27_4 : AY J_f27 S_f27_4 D_f27_4 :=
 A5 fun D_f27_4 h_4 => lk mxk (lbc h_4 rfl lbn) (sd_f27_4 D_f27_4)
def tt_f27 (x : X_f27) : TT Tryz.prog R_f27 :=
 (.ite (!(AW ((x.fst.n : Nat) : Int) ((x.snd.n : Nat) : Int)))
 (.ret false)
 (.AM S_f27_4 D_f27_4 (X_f27_4.mk x.fst x.snd 0)))
theorem sd_f27 (x : X_f27) : (tt_f27 x).AJ :=
 (TT.sI TT.sR TT.sJ)
def D_f27 : AU X_f27 R_f27 := .of tt_f27
def con_f27 : BC Tryz.prog :=
 Br 83 J_f27 S_f27 D_f27 2 0 [hsl_TSo, hsl_TSo] (lk mxk (lbc ok_f27_4 rfl lbn) sd_f27)
abbrev X_f1h : Type := TRs × TRs
abbrev R_f1h : Type := Bool
def J_f1h : BH Tryz.prog :=
 BN Tryz.prog Tryz.f45 53 [(2, 3), (3, 3)] [] [] [] [.any] [] [con_f27] R_f1h [] fun y => [V.bool y]
def S_f1h : AO :=
 Ah Tryz.f45 2 0 X_f1h (fun x => [e_TRs x.1, e_TRs x.2]) fun l => (d_TRs (at_ l 0), d_TRs (at_ l 1))
structure X_f1h_3 where
 DR : TRs
 KR : TRs
def S_f1h_3 : AO :=
 Ad Tryz.f45 3 (an [2, 3]) [] [] X_f1h_3 (fun x => [(CU e_TRs) x.DR, (CU e_TRs) x.KR]) fun l => ⟨(CV d_TRs) (at_ l 0), (CV d_TRs) (at_ l 1)⟩
structure X_f1h_4 where
 DR : TRs
 KR : TRs
 Dh : Int
def S_f1h_4 : AO :=
 Ad Tryz.f45 4 (an [2, 3, 5]) [] [] X_f1h_4 (fun x => [(CU e_TRs) x.DR, (CU e_TRs) x.KR, (V.int .i64) x.Dh]) fun l => ⟨(CV d_TRs) (at_ l 0), (CV d_TRs) (at_ l 1), dI (at_ l 2)⟩
def tt_f1h_4 (D_f1h_4 : AU X_f1h_4 R_f1h) (x : X_f1h_4) : TT Tryz.prog R_f1h :=
 (.ite (Bg x.Dh ((x.DR.AV.n : Nat) : Int))
 (.need (A3 x.Dh x.DR.AV.n) <|
 (.need (A3 x.Dh x.KR.AV.n) <|
 (.ite (!(AW (x.DR.AV.get (Int.toNat x.Dh)) (x.KR.AV.get (Int.toNat x.Dh))))
 (.ret false)
 (.AM S_f1h_4 D_f1h_4 (X_f1h_4.mk x.DR x.KR (IntKind.i64.wrap (x.Dh + 1)))))))
 (.ret true))
theorem sd_f1h_4 (D_f1h_4 : AU X_f1h_4 R_f1h) (x : X_f1h_4) : (tt_f1h_4 D_f1h_4 x).AJ :=
 (TT.sI (TT.sN (TT.sN (TT.sI TT.sR TT.sJ))) TT.sR)
def D_f1h_4 : AU X_f1h_4 R_f1h := AU.loop tt_f1h_4
theorem ok_f1h_4 : AY J_f1h S_f1h_4 D_f1h_4 :=
 A5 fun D_f1h_4 h_4 => lk mxk (lbc h_4 rfl lbn) (sd_f1h_4 D_f1h_4)
def tt_f1h_3 (x : X_f1h_3) : TT Tryz.prog R_f1h :=
 (.AM S_f1h_4 D_f1h_4 (X_f1h_4.mk x.DR x.KR 0))
theorem sd_f1h_3 (x : X_f1h_3) : (tt_f1h_3 x).AJ :=
 TT.sJ
def D_f1h_3 : AU X_f1h_3 R_f1h := .of tt_f1h_3
theorem ok_f1h_3 : AY J_f1h S_f1h_3 D_f1h_3 :=
 lk mxk (lbc ok_f1h_4 rfl lbn) sd_f1h_3
def tt_f1h (x : X_f1h) : TT Tryz.prog R_f1h :=
 (.ite (!(AW x.fst.Ax x.snd.Ax))
 (.ret false)
 (.ite (!(x.fst.Ao == x.snd.Ao))
 (.ret false)
 (.ite (!(AW ((x.fst.AV.n : Nat) : Int) ((x.snd.AV.n : Nat) : Int)))
 (.ret false)
 (.call con_f27 (x.fst.Ai, x.snd.Ai) fun (y1 : R_f27) =>
 (.ite (!y1)
 (.ret false)
 (.AM S_f1h_3 D_f1h_3 (X_f1h_3.mk x.fst x.snd)))))))
theorem sd_f1h (x : X_f1h) : (tt_f1h x).AJ :=
 (TT.sI TT.sR (TT.sI TT.sR (TT.sI TT.sR (TT.sC fun _ => (TT.sI TT.sR TT.sJ)))))
def D_f1h : AU X_f1h R_f1h := .of tt_f1h
def con_f1h : BC Tryz.prog :=
 Br 45 J_f1h S_f1h D_f1h 2 0 [sh_TRs, sh_TRs] (lk mxk (lbc ok_f1h_4 rfl (lbc ok_f1h_3 rfl lbn)) sd_f1h)
abbrev X_fj : Type := TSt × TSt
abbrev R_fj : Type := Bool
def J_fj : BH Tryz.prog :=
 BN Tryz.prog Tryz.f16 82 [(2, 3), (3, 3)] [] [] [] [.any] [] [con_f1h, con_f48] R_fj [] fun y => [V.bool y]
def S_fj : AO :=
 Ah Tryz.f16 2 0 X_fj (fun x => [e_TSt x.1, e_TSt x.2]) fun l => (d_TSt (at_ l 0), d_TSt (at_ l 1))
structure X_fj_3 where
 DR : TSt
 KR : TSt
def S_fj_3 : AO :=
 Ad Tryz.f16 3 (an [2, 3]) [] [] X_fj_3 (fun x => [(CU e_TSt) x.DR, (CU e_TSt) x.KR]) fun l => ⟨(CV d_TSt) (at_ l 0), (CV d_TSt) (at_ l 1)⟩
structure X_fj_4 where
 DR : TSt
 KR : TSt
 Dh : Int
def S_fj_4 : AO :=
 Ad Tryz.f16 4 (an [2, 3, 5]) [] [] X_fj_4 (fun x => [(CU e_TSt) x.DR, (CU e_TSt) x.KR, (V.int .i64) x.Dh]) fun l => ⟨(CV d_TSt) (at_ l 0), (CV d_TSt) (at_ l 1), dI (at_ l 2)⟩
structure X_fj_8 where
 DR : TSt
 KR : TSt
def S_fj_8 : AO :=
 Ad Tryz.f16 8 (an [2, 3]) [] [] X_fj_8 (fun x => [(CU e_TSt) x.DR, (CU e_TSt) x.KR]) fun l => ⟨(CV d_TSt) (at_ l 0), (CV d_TSt) (at_ l 1)⟩
structure X_fj_9 where
 DR : TSt
 KR : TSt
 KN : Int
def S_fj_9 : AO :=
 Ad Tryz.f16 9 (an [2, 3, 6]) [] [] X_fj_9 (fun x => [(CU e_TSt) x.DR, (CU e_TSt) x.KR, (V.int .i64) x.KN]) fun l => ⟨(CV d_TSt) (at_ l 0), (CV d_TSt) (at_ l 1), dI (at_ l 2)⟩
def tt_fj_9 (D_fj_9 : AU X_fj_9 R_fj) (x : X_fj_9) : TT Tryz.prog R_fj :=
 (.ite (Bg x.KN ((x.DR.AF.n : Nat) : Int))
 (.need (A3 x.KN x.DR.AF.n) <|
 (.need (A3 x.KN x.KR.AF.n) <|
 (.call con_f1h ((x.DR.AF.get (Int.toNat x.KN)), (x.KR.AF.get (Int.toNat x.KN))) fun (y2 : R_f1h) =>
 (.ite (!y2)
 (.ret false)
 (.AM S_fj_9 D_fj_9 (X_fj_9.mk x.DR x.KR (IntKind.i64.wrap (x.KN + 1))))))))
 (.ret true))
theorem sd_fj_9 (D_fj_9 : AU X_fj_9 R_fj) (x : X_fj_9) : (tt_fj_9 D_fj_9 x).AJ :=
 (TT.sI (TT.sN (TT.sN (TT.sC fun _ => (TT.sI TT.sR TT.sJ)))) TT.sR)
def D_fj_9 : AU X_fj_9 R_fj := AU.loop tt_fj_9
theorem ok_fj_9 : AY J_fj S_fj_9 D_fj_9 :=
 A5 fun D_fj_9 h_9 => lk mxk (lbc h_9 rfl lbn) (sd_fj_9 D_fj_9)
def tt_fj_8 (x : X_fj_8) : TT Tryz.prog R_fj :=
 (.AM S_fj_9 D_fj_9 (X_fj_9.mk x.DR x.KR 0))
theorem sd_fj_8 (x : X_fj_8) : (tt_fj_8 x).AJ :=
 TT.sJ
def D_fj_8 : AU X_fj_8 R_fj := .of tt_fj_8
theorem ok_fj_8 : AY J_fj S_fj_8 D_fj_8 :=
 lk mxk (lbc ok_fj_9 rfl lbn) sd_fj_8
def tt_fj_4 (D_fj_4 : AU X_fj_4 R_fj) (x : X_fj_4) : TT Tryz.prog R_fj :=
 (.ite (Bg x.Dh ((x.DR.AB.n : Nat) : Int))
 (.need (A3 x.Dh x.DR.AB.n) <|
 (.need (A3 x.Dh x.KR.AB.n) <|
 (.call con_f48 ((x.DR.AB.get (Int.toNat x.Dh)), (x.KR.AB.get (Int.toNat x.Dh))) fun (y2 : R_f48) =>
 (.ite (!y2)
 (.ret false)
 (.AM S_fj_4 D_fj_4 (X_fj_4.mk x.DR x.KR (IntKind.i64.wrap (x.Dh + 1))))))))
 (.AM S_fj_8 D_fj_8 (X_fj_8.mk x.DR x.KR)))
theorem sd_fj_4 (D_fj_4 : AU X_fj_4 R_fj) (x : X_fj_4) : (tt_fj_4 D_fj_4 x).AJ :=
 (TT.sI (TT.sN (TT.sN (TT.sC fun _ => (TT.sI TT.sR TT.sJ)))) TT.sJ)
def D_fj_4 : AU X_fj_4 R_fj := AU.loop tt_fj_4
theorem ok_fj_4 : AY J_fj S_fj_4 D_fj_4 :=
 A5 fun D_fj_4 h_4 => lk mxk (lbc h_4 rfl (lbc ok_fj_9 rfl (lbc ok_fj_8 rfl lbn))) (sd_fj_4 D_fj_4)
def tt_fj_3 (x : X_fj_3) : TT Tryz.prog R_fj :=
 (.AM S_fj_4 D_fj_4 (X_fj_4.mk x.DR x.KR 0))
theorem sd_fj_3 (x : X_fj_3) : (tt_fj_3 x).AJ :=
 TT.sJ
def D_fj_3 : AU X_fj_3 R_fj := .of tt_fj_3
theorem ok_fj_3 : AY J_fj S_fj_3 D_fj_3 :=
 lk mxk (lbc ok_fj_9 rfl (lbc ok_fj_8 rfl (lbc ok_fj_4 rfl lbn))) sd_fj_3
def tt_fj (x : X_fj) : TT Tryz.prog R_fj :=
 (.ite (!(AW ((x.fst.AB.n : Nat) : Int) ((x.snd.AB.n : Nat) : Int)))
 (.ret false)
 (.ite (!(AW ((x.fst.AF.n : Nat) : Int) ((x.snd.AF.n : Nat) : Int)))
 (.ret false)
 (.ite (!(AW x.fst.FQ x.snd.FQ))
 (.ret false)
 (.ite (!(AW x.fst.Reads x.snd.Reads))
 (.ret false)
 (.ite (!(x.fst.Ba == x.snd.Ba))
 (.ret false)
 (.AM S_fj_3 D_fj_3 (X_fj_3.mk x.fst x.snd)))))))
theorem sd_fj (x : X_fj) : (tt_fj x).AJ :=
 (TT.sI TT.sR (TT.sI TT.sR (TT.sI TT.sR (TT.sI TT.sR (TT.sI TT.sR TT.sJ)))))
def D_fj : AU X_fj R_fj := .of tt_fj
def con_fj : BC Tryz.prog :=
 Br 16 J_fj S_fj D_fj 2 0 [sh_TSt, sh_TSt] (lk mxk (lbc ok_fj_9 rfl (lbc ok_fj_8 rfl (lbc ok_fj_4 rfl (lbc ok_fj_3 rfl lbn)))) sd_fj)
abbrev X_fb : Type := Int × Int × Int
abbrev R_fb : Type := Int
def J_fb : BH Tryz.prog :=
 BN Tryz.prog Tryz.f199 58 [] [] [] [] [.any] [] [] R_fb [] fun y => [(V.int .u64) y]
def S_fb : AO :=
 Ah Tryz.f199 3 0 X_fb (fun x => [(V.int .i64) x.1, (V.int .u64) x.2.1, (V.int .u64) x.2.2]) fun l => (dI (at_ l 0), dI (at_ l 1), dI (at_ l 2))
structure X_fb_3 where
 Dt : Int
 GC : Int
 G5 : Int
 DX : Int
 Bt : Int
 Hd : Int
def S_fb_3 : AO :=
 Ad Tryz.f199 3 (an [0, 1, 2, 7, 8, 9]) [] [] X_fb_3 (fun x => [(V.int .i64) x.Dt, (V.int .u64) x.GC, (V.int .u64) x.G5, (V.int .u64) x.DX, (V.int .u64) x.Bt, (V.int .i64) x.Hd]) fun l => ⟨dI (at_ l 0), dI (at_ l 1), dI (at_ l 2), dI (at_ l 3), dI (at_ l 4), dI (at_ l 5)⟩
structure X_fb_4 where
 Dt : Int
 GC : Int
 G5 : Int
 DX : Int
 Bt : Int
 Hd : Int
def S_fb_4 : AO :=
 Ad Tryz.f199 4 (an [0, 1, 2, 7, 8, 9]) [] [] X_fb_4 (fun x => [(V.int .i64) x.Dt, (V.int .u64) x.GC, (V.int .u64) x.G5, (V.int .u64) x.DX, (V.int .u64) x.Bt, (V.int .i64) x.Hd]) fun l => ⟨dI (at_ l 0), dI (at_ l 1), dI (at_ l 2), dI (at_ l 3), dI (at_ l 4), dI (at_ l 5)⟩
structure X_fb_8 where
 Dt : Int
 GC : Int
 G5 : Int
 DX : Int
 Bt : Int
 Hd : Int
def S_fb_8 : AO :=
 Ad Tryz.f199 8 (an [0, 1, 2, 7, 8, 9]) [] [] X_fb_8 (fun x => [(V.int .i64) x.Dt, (V.int .u64) x.GC, (V.int .u64) x.G5, (V.int .u64) x.DX, (V.int .u64) x.Bt, (V.int .i64) x.Hd]) fun l => ⟨dI (at_ l 0), dI (at_ l 1), dI (at_ l 2), dI (at_ l 3), dI (at_ l 4), dI (at_ l 5)⟩
def tt_fb_4 (D_fb_3 : AU X_fb_3 R_fb) (x : X_fb_4) : TT Tryz.prog R_fb :=
 (.AM S_fb_3 D_fb_3 (X_fb_3.mk x.Dt x.GC x.G5 x.DX x.Bt (IntKind.i64.wrap (x.Hd + 1))))
theorem sd_fb_4 (D_fb_3 : AU X_fb_3 R_fb) (x : X_fb_4) : (tt_fb_4 D_fb_3 x).AJ :=
 TT.sJ
def D_fb_4 (D_fb_3 : AU X_fb_3 R_fb) : AU X_fb_4 R_fb := .of (tt_fb_4 D_fb_3)
theorem ok_fb_4 (D_fb_3 : AU X_fb_3 R_fb) (h_3 : AY J_fb S_fb_3 D_fb_3) : AY J_fb S_fb_4 (D_fb_4 D_fb_3) :=
 lk mxk (lbc h_3 rfl lbn) (sd_fb_4 D_fb_3)
def tt_fb_8 (D_fb_3 : AU X_fb_3 R_fb) (x : X_fb_8) : TT Tryz.prog R_fb :=
 (.AM S_fb_4 (D_fb_4 D_fb_3) (X_fb_4.mk x.Dt (IntKind.u64.wrap (Int.tdiv x.GC 2)) (IntKind.u64.wrap (Int.tdiv x.G5 2)) x.DX (IntKind.u64.wrap (x.Bt * 2)) x.Hd))
theorem sd_fb_8 (D_fb_3 : AU X_fb_3 R_fb) (x : X_fb_8) : (tt_fb_8 D_fb_3 x).AJ :=
 TT.sJ
def D_fb_8 (D_fb_3 : AU X_fb_3 R_fb) : AU X_fb_8 R_fb := .of (tt_fb_8 D_fb_3)
theorem ok_fb_8 (D_fb_3 : AU X_fb_3 R_fb) (h_3 : AY J_fb S_fb_3 D_fb_3) : AY J_fb S_fb_8 (D_fb_8 D_fb_3) :=
 lk mxk (lbc h_3 rfl (lbc (ok_fb_4 D_fb_3 h_3) rfl lbn)) (sd_fb_8 D_fb_3)
def tt_fb_3 (D_fb_3 : AU X_fb_3 R_fb) (x : X_fb_3) : TT Tryz.prog R_fb :=
 (.ite (Bg x.Hd 64)
 (.ite (AW x.Dt 8)
 (.ite (AW (IntKind.u64.wrap ((Int.tmod x.GC 2) + (Int.tmod x.G5 2))) 2)
 (.AM S_fb_8 (D_fb_8 D_fb_3) (X_fb_8.mk x.Dt x.GC x.G5 (IntKind.u64.wrap (x.DX + x.Bt)) x.Bt x.Hd))
 (.ite (AW x.Dt 9)
 (.ite (Bg 0 (IntKind.u64.wrap ((Int.tmod x.GC 2) + (Int.tmod x.G5 2))))
 (.AM S_fb_8 (D_fb_8 D_fb_3) (X_fb_8.mk x.Dt x.GC x.G5 (IntKind.u64.wrap (x.DX + x.Bt)) x.Bt x.Hd))
 (.ite (AW x.Dt 10)
 (.ite (AW (IntKind.u64.wrap ((Int.tmod x.GC 2) + (Int.tmod x.G5 2))) 1)
 (.AM S_fb_8 (D_fb_8 D_fb_3) (X_fb_8.mk x.Dt x.GC x.G5 (IntKind.u64.wrap (x.DX + x.Bt)) x.Bt x.Hd))
 (.AM S_fb_8 (D_fb_8 D_fb_3) (X_fb_8.mk x.Dt x.GC x.G5 x.DX x.Bt x.Hd)))
 (.AM S_fb_8 (D_fb_8 D_fb_3) (X_fb_8.mk x.Dt x.GC x.G5 x.DX x.Bt x.Hd))))
 (.ite (AW x.Dt 10)
 (.ite (AW (IntKind.u64.wrap ((Int.tmod x.GC 2) + (Int.tmod x.G5 2))) 1)
 (.AM S_fb_8 (D_fb_8 D_fb_3) (X_fb_8.mk x.Dt x.GC x.G5 (IntKind.u64.wrap (x.DX + x.Bt)) x.Bt x.Hd))
 (.AM S_fb_8 (D_fb_8 D_fb_3) (X_fb_8.mk x.Dt x.GC x.G5 x.DX x.Bt x.Hd)))
 (.AM S_fb_8 (D_fb_8 D_fb_3) (X_fb_8.mk x.Dt x.GC x.G5 x.DX x.Bt x.Hd)))))
 (.ite (AW x.Dt 9)
 (.ite (Bg 0 (IntKind.u64.wrap ((Int.tmod x.GC 2) + (Int.tmod x.G5 2))))
 (.AM S_fb_8 (D_fb_8 D_fb_3) (X_fb_8.mk x.Dt x.GC x.G5 (IntKind.u64.wrap (x.DX + x.Bt)) x.Bt x.Hd))
 (.ite (AW x.Dt 10)
 (.ite (AW (IntKind.u64.wrap ((Int.tmod x.GC 2) + (Int.tmod x.G5 2))) 1)
 (.AM S_fb_8 (D_fb_8 D_fb_3) (X_fb_8.mk x.Dt x.GC x.G5 (IntKind.u64.wrap (x.DX + x.Bt)) x.Bt x.Hd))
 (.AM S_fb_8 (D_fb_8 D_fb_3) (X_fb_8.mk x.Dt x.GC x.G5 x.DX x.Bt x.Hd)))
 (.AM S_fb_8 (D_fb_8 D_fb_3) (X_fb_8.mk x.Dt x.GC x.G5 x.DX x.Bt x.Hd))))
 (.ite (AW x.Dt 10)
 (.ite (AW (IntKind.u64.wrap ((Int.tmod x.GC 2) + (Int.tmod x.G5 2))) 1)
 (.AM S_fb_8 (D_fb_8 D_fb_3) (X_fb_8.mk x.Dt x.GC x.G5 (IntKind.u64.wrap (x.DX + x.Bt)) x.Bt x.Hd))
 (.AM S_fb_8 (D_fb_8 D_fb_3) (X_fb_8.mk x.Dt x.GC x.G5 x.DX x.Bt x.Hd)))
 (.AM S_fb_8 (D_fb_8 D_fb_3) (X_fb_8.mk x.Dt x.GC x.G5 x.DX x.Bt x.Hd)))))
 (.ret x.DX))
theorem sd_fb_3 (D_fb_3 : AU X_fb_3 R_fb) (x : X_fb_3) : (tt_fb_3 D_fb_3 x).AJ :=
 (TT.sI (TT.sI (TT.sI TT.sJ (TT.sI (TT.sI TT.sJ (TT.sI (TT.sI TT.sJ TT.sJ) TT.sJ)) (TT.sI (TT.sI TT.sJ TT.sJ) TT.sJ))) (TT.sI (TT.sI TT.sJ (TT.sI (TT.sI TT.sJ TT.sJ) TT.sJ)) (TT.sI (TT.sI TT.sJ TT.sJ) TT.sJ))) TT.sR)
def D_fb_3 : AU X_fb_3 R_fb := AU.loop tt_fb_3
theorem ok_fb_3 : AY J_fb S_fb_3 D_fb_3 :=
 A5 fun D_fb_3 h_3 => lk mxk (lbc h_3 rfl (lbc (ok_fb_4 D_fb_3 h_3) rfl (lbc (ok_fb_8 D_fb_3 h_3) rfl lbn))) (sd_fb_3 D_fb_3)
def tt_fb (x : X_fb) : TT Tryz.prog R_fb :=
 (.AM S_fb_3 D_fb_3 (X_fb_3.mk x.fst x.snd.fst x.snd.snd 0 1 0))
theorem sd_fb (x : X_fb) : (tt_fb x).AJ :=
 TT.sJ
def D_fb : AU X_fb R_fb := .of tt_fb
def con_fb : BC Tryz.prog :=
 Br 199 J_fb S_fb D_fb 3 0 [.any, .any, .any] (lk mxk (lbc ok_fb_3 rfl lbn) sd_fb)
abbrev X_ft : Type := Int × Int × Int
abbrev R_ft : Type := Int × Bool
def J_ft : BH Tryz.prog :=
 BN Tryz.prog Tryz.f174 84 [] [] [] [] [.any, .any] [] [con_fb] R_ft [] fun y => [V.CN (V.cons ((V.int .u64) y.1) (V.cons (V.bool y.2) (V.unit)))]
def S_ft : AO :=
 Ah Tryz.f174 3 0 X_ft (fun x => [(V.int .i64) x.1, (V.int .u64) x.2.1, (V.int .u64) x.2.2]) fun l => (dI (at_ l 0), dI (at_ l 1), dI (at_ l 2))
structure X_ft_22 where
 GC : Int
 G5 : Int
 i_8 : Int
def S_ft_22 : AO :=
 Ad Tryz.f174 22 (an [1, 2, 8]) [] [] X_ft_22 (fun x => [(V.int .u64) x.GC, (V.int .u64) x.G5, (V.int .u64) x.i_8]) fun l => ⟨dI (at_ l 0), dI (at_ l 1), dI (at_ l 2)⟩
structure X_ft_25 where
 GC : Int
def S_ft_25 : AO :=
 Ad Tryz.f174 25 [(1, .any)] [] [] X_ft_25 (fun x => [(V.int .u64) x.GC]) fun l => ⟨dI (at_ l 0)⟩
structure X_ft_28 where
 GC : Int
 G5 : Int
 Hd : Int
def S_ft_28 : AO :=
 Ad Tryz.f174 28 (an [1, 2, 9]) [] [] X_ft_28 (fun x => [(V.int .u64) x.GC, (V.int .u64) x.G5, (V.int .u64) x.Hd]) fun l => ⟨dI (at_ l 0), dI (at_ l 1), dI (at_ l 2)⟩
structure X_ft_31 where
 GC : Int
def S_ft_31 : AO :=
 Ad Tryz.f174 31 [(1, .any)] [] [] X_ft_31 (fun x => [(V.int .u64) x.GC]) fun l => ⟨dI (at_ l 0)⟩
def tt_ft_31 (x : X_ft_31) : TT Tryz.prog R_ft :=
 (.ret (x.GC, true))
theorem sd_ft_31 (x : X_ft_31) : (tt_ft_31 x).AJ :=
 TT.sR
def D_ft_31 : AU X_ft_31 R_ft := .of tt_ft_31
theorem ok_ft_31 : AY J_ft S_ft_31 D_ft_31 :=
 lk mxk lbn sd_ft_31
def tt_ft_28 (D_ft_28 : AU X_ft_28 R_ft) (x : X_ft_28) : TT Tryz.prog R_ft :=
 (.ite (Bg x.Hd (Int.tmod x.G5 64))
 (.AM S_ft_28 D_ft_28 (X_ft_28.mk (IntKind.u64.wrap (Int.tdiv x.GC 2)) x.G5 (IntKind.u64.wrap (x.Hd + 1))))
 (.AM S_ft_31 D_ft_31 (X_ft_31.mk x.GC)))
theorem sd_ft_28 (D_ft_28 : AU X_ft_28 R_ft) (x : X_ft_28) : (tt_ft_28 D_ft_28 x).AJ :=
 (TT.sI TT.sJ TT.sJ)
def D_ft_28 : AU X_ft_28 R_ft := AU.loop tt_ft_28
theorem ok_ft_28 : AY J_ft S_ft_28 D_ft_28 :=
 A5 fun D_ft_28 h_28 => lk mxk (lbc h_28 rfl (lbc ok_ft_31 rfl lbn)) (sd_ft_28 D_ft_28)
def tt_ft_25 (x : X_ft_25) : TT Tryz.prog R_ft :=
 (.ret (x.GC, true))
theorem sd_ft_25 (x : X_ft_25) : (tt_ft_25 x).AJ :=
 TT.sR
def D_ft_25 : AU X_ft_25 R_ft := .of tt_ft_25
theorem ok_ft_25 : AY J_ft S_ft_25 D_ft_25 :=
 lk mxk (lbc ok_ft_31 rfl (lbc ok_ft_28 rfl lbn)) sd_ft_25
def tt_ft_22 (D_ft_22 : AU X_ft_22 R_ft) (x : X_ft_22) : TT Tryz.prog R_ft :=
 (.ite (Bg x.i_8 (Int.tmod x.G5 64))
 (.AM S_ft_22 D_ft_22 (X_ft_22.mk (IntKind.u64.wrap (x.GC * 2)) x.G5 (IntKind.u64.wrap (x.i_8 + 1))))
 (.AM S_ft_25 D_ft_25 (X_ft_25.mk x.GC)))
theorem sd_ft_22 (D_ft_22 : AU X_ft_22 R_ft) (x : X_ft_22) : (tt_ft_22 D_ft_22 x).AJ :=
 (TT.sI TT.sJ TT.sJ)
def D_ft_22 : AU X_ft_22 R_ft := AU.loop tt_ft_22
theorem ok_ft_22 : AY J_ft S_ft_22 D_ft_22 :=
 A5 fun D_ft_22 h_22 => lk mxk (lbc h_22 rfl (lbc ok_ft_31 rfl (lbc ok_ft_28 rfl (lbc ok_ft_25 rfl lbn)))) (sd_ft_22 D_ft_22)
def tt_ft (x : X_ft) : TT Tryz.prog R_ft :=
 (.ite (AW x.fst 3)
 (.ret ((IntKind.u64.wrap (x.snd.fst + x.snd.snd)), true))
 (.ite (AW x.fst 4)
 (.ret ((IntKind.u64.wrap (x.snd.fst - x.snd.snd)), true))
 (.ite (AW x.fst 5)
 (.ret ((IntKind.u64.wrap (x.snd.fst * x.snd.snd)), true))
 (.ite (AW x.fst 6)
 (.ite (AW x.snd.snd 0)
 (.ret (0, true))
 (.need (!(AW x.snd.snd 0)) <|
 (.ret ((IntKind.u64.wrap (Int.tdiv x.snd.fst x.snd.snd)), true))))
 (.ite (AW x.fst 7)
 (.ite (AW x.snd.snd 0)
 (.ret (0, true))
 (.need (!(AW x.snd.snd 0)) <|
 (.ret ((IntKind.u64.wrap (x.snd.fst - (IntKind.u64.wrap ((IntKind.u64.wrap (Int.tdiv x.snd.fst x.snd.snd)) * x.snd.snd)))), true))))
 (.ite (AW x.fst 8)
 (.call con_fb x fun (y1 : R_fb) =>
 (.ret (y1, true)))
 (.ite (AW x.fst 9)
 (.call con_fb x fun (y1 : R_fb) =>
 (.ret (y1, true)))
 (.ite (AW x.fst 10)
 (.call con_fb x fun (y1 : R_fb) =>
 (.ret (y1, true)))
 (.ite (AW x.fst 11)
 (.AM S_ft_22 D_ft_22 (X_ft_22.mk x.snd.fst x.snd.snd 0))
 (.ite (AW x.fst 12)
 (.AM S_ft_28 D_ft_28 (X_ft_28.mk x.snd.fst x.snd.snd 0))
 (.ite (AW x.fst 13)
 (.ite (Bg x.snd.fst x.snd.snd)
 (.ret (1, true))
 (.ret (0, true)))
 (.ite (AW x.fst 14)
 (.ite (AW x.snd.fst x.snd.snd)
 (.ret (1, true))
 (.ret (0, true)))
 (.ret (0, false))))))))))))))
theorem sd_ft (x : X_ft) : (tt_ft x).AJ :=
 (TT.sI TT.sR (TT.sI TT.sR (TT.sI TT.sR (TT.sI (TT.sI TT.sR (TT.sN TT.sR)) (TT.sI (TT.sI TT.sR (TT.sN TT.sR)) (TT.sI (TT.sC fun _ => TT.sR) (TT.sI (TT.sC fun _ => TT.sR) (TT.sI (TT.sC fun _ => TT.sR) (TT.sI TT.sJ (TT.sI TT.sJ (TT.sI (TT.sI TT.sR TT.sR) (TT.sI (TT.sI TT.sR TT.sR) TT.sR))))))))))))
def D_ft : AU X_ft R_ft := .of tt_ft
def con_ft : BC Tryz.prog :=
 Br 174 J_ft S_ft D_ft 3 0 [.any, .any, .any] (lk mxk (lbc ok_ft_31 rfl (lbc ok_ft_28 rfl (lbc ok_ft_25 rfl (lbc ok_ft_22 rfl lbn)))) sd_ft)
abbrev X_f3v : Type := (Sl TIn) × TTh
abbrev R_f3v : Type := TTh
def J_f3v : BH Tryz.prog :=
 BN Tryz.prog Tryz.f138 100 [(8, 1), (78, 1)] [] [] [] [sh_TTh] [] [con_ft] R_f3v [] fun y => [e_TTh y]
def S_f3v : AO :=
 Ah Tryz.f138 2 0 X_f3v (fun x => [esl_TIn x.1, e_TTh x.2]) fun l => (dsl_TIn (at_ l 0), d_TTh (at_ l 1))
def tt_f3v (x : X_f3v) : TT Tryz.prog R_f3v :=
 (.need (A3 x.snd.At x.fst.n) <|
 (.ite (AW (x.fst.get (Int.toNat x.snd.At)).Op 1)
 (.need (A3 (x.fst.get (Int.toNat x.snd.At)).A 8) <|
 (.ret (TTh.mk (IntKind.i64.wrap (x.snd.At + 1)) x.snd.Phase x.snd.Ring x.snd.Status x.snd.AG (fun i1 => (cond (Nat.beq i1 (Int.toNat (x.fst.get (Int.toNat x.snd.At)).A)) (x.fst.get (Int.toNat x.snd.At)).K (x.snd.Ae i1))) x.snd.Seen)))
 (.ite (AW (x.fst.get (Int.toNat x.snd.At)).Op 2)
 (.need (A3 (x.fst.get (Int.toNat x.snd.At)).B 8) <|
 (.need (A3 (x.fst.get (Int.toNat x.snd.At)).A 8) <|
 (.ret (TTh.mk (IntKind.i64.wrap (x.snd.At + 1)) x.snd.Phase x.snd.Ring x.snd.Status x.snd.AG (fun i1 => (cond (Nat.beq i1 (Int.toNat (x.fst.get (Int.toNat x.snd.At)).A)) (x.snd.Ae (Int.toNat (x.fst.get (Int.toNat x.snd.At)).B)) (x.snd.Ae i1))) x.snd.Seen))))
 (.ite (AW (x.fst.get (Int.toNat x.snd.At)).Op 15)
 (.ret (TTh.mk (IntKind.i64.wrap (x.fst.get (Int.toNat x.snd.At)).K) x.snd.Phase x.snd.Ring x.snd.Status x.snd.AG x.snd.Ae x.snd.Seen))
 (.ite (AW (x.fst.get (Int.toNat x.snd.At)).Op 16)
 (.need (A3 (x.fst.get (Int.toNat x.snd.At)).A 8) <|
 (.ite (AW (x.snd.Ae (Int.toNat (x.fst.get (Int.toNat x.snd.At)).A)) 0)
 (.ret (TTh.mk (IntKind.i64.wrap (x.fst.get (Int.toNat x.snd.At)).K) x.snd.Phase x.snd.Ring x.snd.Status x.snd.AG x.snd.Ae x.snd.Seen))
 (.ite (AW (x.fst.get (Int.toNat x.snd.At)).Op 17)
 (.need (A3 (x.fst.get (Int.toNat x.snd.At)).A 8) <|
 (.ite (!(AW (x.snd.Ae (Int.toNat (x.fst.get (Int.toNat x.snd.At)).A)) 0))
 (.ret (TTh.mk (IntKind.i64.wrap (x.fst.get (Int.toNat x.snd.At)).K) x.snd.Phase x.snd.Ring x.snd.Status x.snd.AG x.snd.Ae x.snd.Seen))
 (.ite (Bg (x.fst.get (Int.toNat x.snd.At)).Op 15)
 (.need (A3 (x.fst.get (Int.toNat x.snd.At)).B 8) <|
 (.need (A3 (x.fst.get (Int.toNat x.snd.At)).C 8) <|
 (.call con_ft ((x.fst.get (Int.toNat x.snd.At)).Op, ((x.snd.Ae (Int.toNat (x.fst.get (Int.toNat x.snd.At)).B)), (x.snd.Ae (Int.toNat (x.fst.get (Int.toNat x.snd.At)).C)))) fun (y1 : R_ft) =>
 (.need (A3 (x.fst.get (Int.toNat x.snd.At)).A 8) <|
 (.ret (TTh.mk (IntKind.i64.wrap (x.snd.At + 1)) x.snd.Phase x.snd.Ring x.snd.Status x.snd.AG (fun i2 => (cond (Nat.beq i2 (Int.toNat (x.fst.get (Int.toNat x.snd.At)).A)) y1.fst (x.snd.Ae i2))) x.snd.Seen))))))
 (.ret (TTh.mk (IntKind.i64.wrap (x.snd.At + 1)) x.snd.Phase x.snd.Ring x.snd.Status x.snd.AG x.snd.Ae x.snd.Seen)))))
 (.ite (Bg (x.fst.get (Int.toNat x.snd.At)).Op 15)
 (.need (A3 (x.fst.get (Int.toNat x.snd.At)).B 8) <|
 (.need (A3 (x.fst.get (Int.toNat x.snd.At)).C 8) <|
 (.call con_ft ((x.fst.get (Int.toNat x.snd.At)).Op, ((x.snd.Ae (Int.toNat (x.fst.get (Int.toNat x.snd.At)).B)), (x.snd.Ae (Int.toNat (x.fst.get (Int.toNat x.snd.At)).C)))) fun (y1 : R_ft) =>
 (.need (A3 (x.fst.get (Int.toNat x.snd.At)).A 8) <|
 (.ret (TTh.mk (IntKind.i64.wrap (x.snd.At + 1)) x.snd.Phase x.snd.Ring x.snd.Status x.snd.AG (fun i2 => (cond (Nat.beq i2 (Int.toNat (x.fst.get (Int.toNat x.snd.At)).A)) y1.fst (x.snd.Ae i2))) x.snd.Seen))))))
 (.ret (TTh.mk (IntKind.i64.wrap (x.snd.At + 1)) x.snd.Phase x.snd.Ring x.snd.Status x.snd.AG x.snd.Ae x.snd.Seen))))))
 (.ite (AW (x.fst.get (Int.toNat x.snd.At)).Op 17)
 (.need (A3 (x.fst.get (Int.toNat x.snd.At)).A 8) <|
 (.ite (!(AW (x.snd.Ae (Int.toNat (x.fst.get (Int.toNat x.snd.At)).A)) 0))
 (.ret (TTh.mk (IntKind.i64.wrap (x.fst.get (Int.toNat x.snd.At)).K) x.snd.Phase x.snd.Ring x.snd.Status x.snd.AG x.snd.Ae x.snd.Seen))
 (.ite (Bg (x.fst.get (Int.toNat x.snd.At)).Op 15)
 (.need (A3 (x.fst.get (Int.toNat x.snd.At)).B 8) <|
 (.need (A3 (x.fst.get (Int.toNat x.snd.At)).C 8) <|
 (.call con_ft ((x.fst.get (Int.toNat x.snd.At)).Op, ((x.snd.Ae (Int.toNat (x.fst.get (Int.toNat x.snd.At)).B)), (x.snd.Ae (Int.toNat (x.fst.get (Int.toNat x.snd.At)).C)))) fun (y1 : R_ft) =>
 (.need (A3 (x.fst.get (Int.toNat x.snd.At)).A 8) <|
 (.ret (TTh.mk (IntKind.i64.wrap (x.snd.At + 1)) x.snd.Phase x.snd.Ring x.snd.Status x.snd.AG (fun i2 => (cond (Nat.beq i2 (Int.toNat (x.fst.get (Int.toNat x.snd.At)).A)) y1.fst (x.snd.Ae i2))) x.snd.Seen))))))
 (.ret (TTh.mk (IntKind.i64.wrap (x.snd.At + 1)) x.snd.Phase x.snd.Ring x.snd.Status x.snd.AG x.snd.Ae x.snd.Seen)))))
 (.ite (Bg (x.fst.get (Int.toNat x.snd.At)).Op 15)
 (.need (A3 (x.fst.get (Int.toNat x.snd.At)).B 8) <|
 (.need (A3 (x.fst.get (Int.toNat x.snd.At)).C 8) <|
 (.call con_ft ((x.fst.get (Int.toNat x.snd.At)).Op, ((x.snd.Ae (Int.toNat (x.fst.get (Int.toNat x.snd.At)).B)), (x.snd.Ae (Int.toNat (x.fst.get (Int.toNat x.snd.At)).C)))) fun (y1 : R_ft) =>
 (.need (A3 (x.fst.get (Int.toNat x.snd.At)).A 8) <|
 (.ret (TTh.mk (IntKind.i64.wrap (x.snd.At + 1)) x.snd.Phase x.snd.Ring x.snd.Status x.snd.AG (fun i2 => (cond (Nat.beq i2 (Int.toNat (x.fst.get (Int.toNat x.snd.At)).A)) y1.fst (x.snd.Ae i2))) x.snd.Seen))))))
 (.ret (TTh.mk (IntKind.i64.wrap (x.snd.At + 1)) x.snd.Phase x.snd.Ring x.snd.Status x.snd.AG x.snd.Ae x.snd.Seen)))))))))
theorem sd_f3v (x : X_f3v) : (tt_f3v x).AJ :=
 (TT.sN (TT.sI (TT.sN TT.sR) (TT.sI (TT.sN (TT.sN TT.sR)) (TT.sI TT.sR (TT.sI (TT.sN (TT.sI TT.sR (TT.sI (TT.sN (TT.sI TT.sR (TT.sI (TT.sN (TT.sN (TT.sC fun _ => (TT.sN TT.sR)))) TT.sR))) (TT.sI (TT.sN (TT.sN (TT.sC fun _ => (TT.sN TT.sR)))) TT.sR)))) (TT.sI (TT.sN (TT.sI TT.sR (TT.sI (TT.sN (TT.sN (TT.sC fun _ => (TT.sN TT.sR)))) TT.sR))) (TT.sI (TT.sN (TT.sN (TT.sC fun _ => (TT.sN TT.sR)))) TT.sR)))))))
def D_f3v : AU X_f3v R_f3v := .of tt_f3v
def con_f3v : BC Tryz.prog :=
 Br 138 J_f3v S_f3v D_f3v 2 0 [hsl_TIn, sh_TTh] (lk mxk lbn sd_f3v)
structure TA6 where
 Kind : Int
 Ring : Int
 Mode : Int
 Reader : Int
 AG : Int
 Value : Int
def d_TA6 (v : V) : TA6 :=
 ⟨dI (fd v 0), dI (fd v 1), dI (fd v 2), dI (fd v 3), dI (fd v 4), dI (fd v 5)⟩
def e_TA6 (x : TA6) : V :=
 V.cons ((V.int .i64) x.Kind) (V.cons ((V.int .i64) x.Ring) (V.cons ((V.int .i64) x.Mode) (V.cons ((V.int .i64) x.Reader) (V.cons ((V.int .u64) x.AG) (V.cons ((V.int .u64) x.Value) (V.unit))))))
theorem nu_e_TA6 (x : TA6) : (e_TA6 x).Ch := ⟨trivial, trivial, trivial, trivial, trivial, trivial, trivial⟩
abbrev X_fl : Type := (Sl TIn) × TTh
abbrev R_fl : Type := TTh × TA6
def J_fl : BH Tryz.prog :=
 BN Tryz.prog Tryz.f85 138 [(21, 1), (39, 1), (77, 1)] [] [] [] [sh_TTh, .any] [] [con_f3v] R_fl [] fun y => [V.CN (V.cons (e_TTh y.1) (V.cons (e_TA6 y.2) (V.unit)))]
def S_fl : AO :=
 Ah Tryz.f85 2 0 X_fl (fun x => [esl_TIn x.1, e_TTh x.2]) fun l => (dsl_TIn (at_ l 0), d_TTh (at_ l 1))
structure X_fl_8 where
 B2 : (Sl TIn)
 EY : Int
 BM : TTh
 CP : TTh
 BD : TA6
def S_fl_8 : AO :=
 Ad Tryz.f85 8 [(0, hsl_TIn), (3, .any), (4, .any), (5, .any), (6, .any)] [] [(.loc 3 0, sh_TTh), (.loc 4 0, sh_TTh), (.loc 5 0, .any)] X_fl_8 (fun x => [esl_TIn x.B2, (V.ptr (.loc 3 0) []), (V.ptr (.loc 4 0) []), (V.ptr (.loc 5 0) []), (V.int .i64) x.EY, e_TTh x.BM, e_TTh x.CP, e_TA6 x.BD]) fun l => ⟨dsl_TIn (at_ l 0), dI (at_ l 4), d_TTh (at_ l 5), d_TTh (at_ l 6), d_TA6 (at_ l 7)⟩
structure X_fl_10 where
 B2 : (Sl TIn)
 EY : Int
 BM : TTh
 CP : TTh
 BD : TA6
def S_fl_10 : AO :=
 Ad Tryz.f85 10 [(0, hsl_TIn), (3, .any), (4, .any), (5, .any), (6, .any)] [] [(.loc 3 0, sh_TTh), (.loc 4 0, sh_TTh), (.loc 5 0, .any)] X_fl_10 (fun x => [esl_TIn x.B2, (V.ptr (.loc 3 0) []), (V.ptr (.loc 4 0) []), (V.ptr (.loc 5 0) []), (V.int .i64) x.EY, e_TTh x.BM, e_TTh x.CP, e_TA6 x.BD]) fun l => ⟨dsl_TIn (at_ l 0), dI (at_ l 4), d_TTh (at_ l 5), d_TTh (at_ l 6), d_TA6 (at_ l 7)⟩
structure X_fl_11 where
 B2 : (Sl TIn)
 BM : TTh
 CP : TTh
 BD : TA6
def S_fl_11 : AO :=
 Ad Tryz.f85 11 [(0, hsl_TIn), (3, .any), (4, .any), (5, .any)] [] [(.loc 3 0, sh_TTh), (.loc 4 0, sh_TTh), (.loc 5 0, .any)] X_fl_11 (fun x => [esl_TIn x.B2, (V.ptr (.loc 3 0) []), (V.ptr (.loc 4 0) []), (V.ptr (.loc 5 0) []), e_TTh x.BM, e_TTh x.CP, e_TA6 x.BD]) fun l => ⟨dsl_TIn (at_ l 0), d_TTh (at_ l 4), d_TTh (at_ l 5), d_TA6 (at_ l 6)⟩
def tt_fl_11 (x : X_fl_11) : TT Tryz.prog R_fl :=
 (.ite (AW x.BM.At ((x.B2.n : Nat) : Int))
 (.ret (x.BM, (TA6.mk 8 0 0 0 0 0)))
 (.need (A3 x.BM.At x.B2.n) <|
 (.ite (AW (x.B2.get (Int.toNat x.BM.At)).Op 18)
 (.need (A3 (x.B2.get (Int.toNat x.BM.At)).A 8) <|
 (.ret (x.BM, (TA6.mk 1 (x.B2.get (Int.toNat x.BM.At)).C (x.B2.get (Int.toNat x.BM.At)).D 0 0 (x.BM.Ae (Int.toNat (x.B2.get (Int.toNat x.BM.At)).A))))))
 (.ite (AW (x.B2.get (Int.toNat x.BM.At)).Op 19)
 (.ret (x.BM, (TA6.mk 2 (x.B2.get (Int.toNat x.BM.At)).C (x.B2.get (Int.toNat x.BM.At)).D (IntKind.i64.wrap (x.B2.get (Int.toNat x.BM.At)).K) 0 0)))
 (.ite (AW (x.B2.get (Int.toNat x.BM.At)).Op 20)
 (.ret (x.BM, (TA6.mk 3 (x.B2.get (Int.toNat x.BM.At)).C 0 0 0 0)))
 (.ite (AW (x.B2.get (Int.toNat x.BM.At)).Op 21)
 (.ret (x.BM, (TA6.mk (IntKind.i64.wrap ((x.B2.get (Int.toNat x.BM.At)).Op - 17)) 0 0 0 0 0)))
 (.ite (AW (x.B2.get (Int.toNat x.BM.At)).Op 22)
 (.ret (x.BM, (TA6.mk (IntKind.i64.wrap ((x.B2.get (Int.toNat x.BM.At)).Op - 17)) 0 0 0 0 0)))
 (.ite (AW (x.B2.get (Int.toNat x.BM.At)).Op 23)
 (.ret (x.BM, (TA6.mk (IntKind.i64.wrap ((x.B2.get (Int.toNat x.BM.At)).Op - 17)) 0 0 0 0 0)))
 (.ite (AW (x.B2.get (Int.toNat x.BM.At)).Op 24)
 (.need (A3 (x.B2.get (Int.toNat x.BM.At)).A 8) <|
 (.ret (x.BM, (TA6.mk 7 0 0 0 0 (x.BM.Ae (Int.toNat (x.B2.get (Int.toNat x.BM.At)).A))))))
 (.ite (AW (x.B2.get (Int.toNat x.BM.At)).Op 25)
 (.ret (x.BM, (TA6.mk 8 0 0 0 0 0)))
 (.ret (x.BM, (TA6.mk 9 0 0 0 0 0)))))))))))))
theorem sd_fl_11 (x : X_fl_11) : (tt_fl_11 x).AJ :=
 (TT.sI TT.sR (TT.sN (TT.sI (TT.sN TT.sR) (TT.sI TT.sR (TT.sI TT.sR (TT.sI TT.sR (TT.sI TT.sR (TT.sI TT.sR (TT.sI (TT.sN TT.sR) (TT.sI TT.sR TT.sR))))))))))
def D_fl_11 : AU X_fl_11 R_fl := .of tt_fl_11
theorem ok_fl_11 : AY J_fl S_fl_11 D_fl_11 :=
 lk mxk lbn sd_fl_11
def tt_fl_10 (D_fl_8 : AU X_fl_8 R_fl) (x : X_fl_10) : TT Tryz.prog R_fl :=
 (.call con_f3v (x.B2, x.BM) fun (y2 : R_f3v) =>
 (.AM S_fl_8 D_fl_8 (X_fl_8.mk x.B2 (IntKind.i64.wrap (x.EY + 1)) y2 x.CP x.BD)))
theorem sd_fl_10 (D_fl_8 : AU X_fl_8 R_fl) (x : X_fl_10) : (tt_fl_10 D_fl_8 x).AJ :=
 (TT.sC fun _ => TT.sJ)
def D_fl_10 (D_fl_8 : AU X_fl_8 R_fl) : AU X_fl_10 R_fl := .of (tt_fl_10 D_fl_8)
theorem ok_fl_10 (D_fl_8 : AU X_fl_8 R_fl) (h_8 : AY J_fl S_fl_8 D_fl_8) : AY J_fl S_fl_10 (D_fl_10 D_fl_8) :=
 lk mxk (lbc h_8 rfl (lbc ok_fl_11 rfl lbn)) (sd_fl_10 D_fl_8)
def tt_fl_8 (D_fl_8 : AU X_fl_8 R_fl) (x : X_fl_8) : TT Tryz.prog R_fl :=
 (.ite (Bg x.EY 256)
 (.ite (Bg x.BM.At ((x.B2.n : Nat) : Int))
 (.need (A3 x.BM.At x.B2.n) <|
 (.ite (Bm (x.B2.get (Int.toNat x.BM.At)).Op 17)
 (.AM S_fl_10 (D_fl_10 D_fl_8) (X_fl_10.mk x.B2 x.EY x.BM x.CP x.BD))
 (.AM S_fl_11 D_fl_11 (X_fl_11.mk x.B2 x.BM x.CP x.BD))))
 (.AM S_fl_11 D_fl_11 (X_fl_11.mk x.B2 x.BM x.CP x.BD)))
 (.AM S_fl_11 D_fl_11 (X_fl_11.mk x.B2 x.BM x.CP x.BD)))
theorem sd_fl_8 (D_fl_8 : AU X_fl_8 R_fl) (x : X_fl_8) : (tt_fl_8 D_fl_8 x).AJ :=
 (TT.sI (TT.sI (TT.sN (TT.sI TT.sJ TT.sJ)) TT.sJ) TT.sJ)
def D_fl_8 : AU X_fl_8 R_fl := AU.loop tt_fl_8
theorem ok_fl_8 : AY J_fl S_fl_8 D_fl_8 :=
 A5 fun D_fl_8 h_8 => lk mxk (lbc h_8 rfl (lbc ok_fl_11 rfl (lbc (ok_fl_10 D_fl_8 h_8) rfl lbn))) (sd_fl_8 D_fl_8)
def tt_fl (x : X_fl) : TT Tryz.prog R_fl :=
 (.ite (!(AW x.snd.Status 0))
 (.ret (x.snd, (TA6.mk 0 0 0 0 0 0)))
 (.ite (AW x.snd.Phase 1)
 (.need (A3 x.snd.At x.fst.n) <|
 (.need (A3 (x.fst.get (Int.toNat x.snd.At)).A 8) <|
 (.ret (x.snd, (TA6.mk 10 x.snd.Ring 0 0 x.snd.AG (x.snd.Ae (Int.toNat (x.fst.get (Int.toNat x.snd.At)).A)))))))
 (.ite (AW x.snd.Phase 2)
 (.need (A3 x.snd.At x.fst.n) <|
 (.ret (x.snd, (TA6.mk 11 x.snd.Ring 0 (IntKind.i64.wrap (x.fst.get (Int.toNat x.snd.At)).K) x.snd.AG 0))))
 (.AM S_fl_8 D_fl_8 (X_fl_8.mk x.fst 0 x.snd (TTh.mk 0 0 0 0 0 (fun _i1 => (0 : Int)) (Sl.mk true 0 (fun _i1 => (0 : Int)))) (TA6.mk 0 0 0 0 0 0))))))
theorem sd_fl (x : X_fl) : (tt_fl x).AJ :=
 (TT.sI TT.sR (TT.sI (TT.sN (TT.sN TT.sR)) (TT.sI (TT.sN TT.sR) TT.sJ)))
def D_fl : AU X_fl R_fl := .of tt_fl
def con_fl : BC Tryz.prog :=
 Br 85 J_fl S_fl D_fl 2 0 [hsl_TIn, sh_TTh] (lk mxk (lbc ok_fl_11 rfl (lbc ok_fl_8 rfl lbn)) sd_fl)
abbrev X_f3x : Type := TPg × TSt × Int
abbrev R_f3x : Type := TA6
def J_f3x : BH Tryz.prog :=
 BN Tryz.prog Tryz.f49 24 [(3, 3), (4, 3), (9, 1)] [] [] [] [.any] [] [con_fl] R_f3x [] fun y => [e_TA6 y]
def S_f3x : AO :=
 Ah Tryz.f49 3 0 X_f3x (fun x => [e_TPg x.1, e_TSt x.2.1, (V.int .i64) x.2.2]) fun l => (d_TPg (at_ l 0), d_TSt (at_ l 1), dI (at_ l 2))
def tt_f3x (x : X_f3x) : TT Tryz.prog R_f3x :=
 (.need (A3 x.snd.snd x.fst.AB.n) <|
 (.need (A3 x.snd.snd x.snd.fst.AB.n) <|
 (.call con_fl ((x.fst.AB.get (Int.toNat x.snd.snd)), (x.snd.fst.AB.get (Int.toNat x.snd.snd))) fun (y1 : R_fl) =>
 (.ret y1.snd))))
theorem sd_f3x (x : X_f3x) : (tt_f3x x).AJ :=
 (TT.sN (TT.sN (TT.sC fun _ => TT.sR)))
def D_f3x : AU X_f3x R_f3x := .of tt_f3x
def con_f3x : BC Tryz.prog :=
 Br 49 J_f3x S_f3x D_f3x 3 0 [sh_TPg, sh_TSt, .any] (lk mxk lbn sd_f3x)
abbrev X_f4e : Type := TRg × TRs
abbrev R_f4e : Type := TR3
def J_f4e : BH Tryz.prog :=
 BN Tryz.prog Tryz.f139 24 [(2, 3), (3, 3)] [] [] [] [sh_TR3] [] [] R_f4e [] fun y => [e_TR3 y]
def S_f4e : AO :=
 Ah Tryz.f139 2 0 X_f4e (fun x => [e_TRg x.1, e_TRs x.2]) fun l => (d_TRg (at_ l 0), d_TRs (at_ l 1))
def tt_f4e (x : X_f4e) : TT Tryz.prog R_f4e :=
 (.need (true && (room ((0 : Nat) + x.snd.AV.n) 8)) <|
 (.need (true && (room ((0 : Nat) + x.snd.Ai.n) 24)) <|
 (.ret (TR3.mk (IntKind.u64.wrap x.fst.DE) x.snd.Ax (Sl.mk (cond (Nat.beq x.snd.AV.n 0) false false) ((0 : Nat) + x.snd.AV.n) (fun i1 => (cond (Nat.blt i1 0) (0 : Int) (x.snd.AV.get (i1 - 0))))) x.snd.Ao (TR2.mk (Sl.mk (cond (Nat.beq x.snd.Ai.n 0) false false) ((0 : Nat) + x.snd.Ai.n) (fun i1 => (TSo.mk (cond (Nat.blt i1 0) (0 : Int) (x.snd.Ai.get (i1 - 0)).AP) (cond (Nat.blt i1 0) (0 : Int) (x.snd.Ai.get (i1 - 0)).Value) (cond (Nat.blt i1 0) (0 : Int) (x.snd.Ai.get (i1 - 0)).Left)))) x.fst.AR)))))
theorem sd_f4e (x : X_f4e) : (tt_f4e x).AJ :=
 (TT.sN (TT.sN TT.sR))
def D_f4e : AU X_f4e R_f4e := .of tt_f4e
def con_f4e : BC Tryz.prog :=
 Br 139 J_f4e S_f4e D_f4e 2 0 [.any, sh_TRs] (lk mxk lbn sd_f4e)
abbrev X_f3f : Type := TPg × TSt × Int
abbrev R_f3f : Type := TR3
def J_f3f : BH Tryz.prog :=
 BN Tryz.prog Tryz.f86 18 [(3, 3), (4, 3)] [] [] [] [sh_TR3] [] [con_f4e] R_f3f [] fun y => [e_TR3 y]
def S_f3f : AO :=
 Ah Tryz.f86 3 0 X_f3f (fun x => [e_TPg x.1, e_TSt x.2.1, (V.int .i64) x.2.2]) fun l => (d_TPg (at_ l 0), d_TSt (at_ l 1), dI (at_ l 2))
def tt_f3f (x : X_f3f) : TT Tryz.prog R_f3f :=
 (.need (A3 x.snd.snd x.fst.AF.n) <|
 (.need (A3 x.snd.snd x.snd.fst.AF.n) <|
 (.call con_f4e ((x.fst.AF.get (Int.toNat x.snd.snd)), (x.snd.fst.AF.get (Int.toNat x.snd.snd))) fun (y1 : R_f4e) =>
 (.ret y1))))
theorem sd_f3f (x : X_f3f) : (tt_f3f x).AJ :=
 (TT.sN (TT.sN (TT.sC fun _ => TT.sR)))
def D_f3f : AU X_f3f R_f3f := .of tt_f3f
def con_f3f : BC Tryz.prog :=
 Br 86 J_f3f S_f3f D_f3f 3 0 [sh_TPg, sh_TSt, .any] (lk mxk lbn sd_f3f)
abbrev X_fs : Type := (Sl Int)
abbrev R_fs : Type := Int
def J_fs : BH Tryz.prog :=
 BN Tryz.prog Tryz.f140 25 [] [] [] [] [.any] [] [] R_fs [] fun y => [(V.int .u64) y]
def S_fs : AO :=
 Ah Tryz.f140 1 0 X_fs (fun x => [BB x]) fun l => (BV (at_ l 0))
structure X_fs_3 where
 B2 : (Sl Int)
 RD : Int
 FG : Int
def S_fs_3 : AO :=
 Ad Tryz.f140 3 [(0, BJ), (3, .any), (4, .any)] [] [] X_fs_3 (fun x => [BB x.B2, (V.int .u64) x.RD, (V.int .i64) x.FG]) fun l => ⟨BV (at_ l 0), dI (at_ l 1), dI (at_ l 2)⟩
structure X_fs_4 where
 B2 : (Sl Int)
 RD : Int
 FG : Int
def S_fs_4 : AO :=
 Ad Tryz.f140 4 [(0, BJ), (3, .any), (4, .any)] [] [] X_fs_4 (fun x => [BB x.B2, (V.int .u64) x.RD, (V.int .i64) x.FG]) fun l => ⟨BV (at_ l 0), dI (at_ l 1), dI (at_ l 2)⟩
def tt_fs_4 (D_fs_3 : AU X_fs_3 R_fs) (x : X_fs_4) : TT Tryz.prog R_fs :=
 (.AM S_fs_3 D_fs_3 (X_fs_3.mk x.B2 x.RD (IntKind.i64.wrap (x.FG + 1))))
theorem sd_fs_4 (D_fs_3 : AU X_fs_3 R_fs) (x : X_fs_4) : (tt_fs_4 D_fs_3 x).AJ :=
 TT.sJ
def D_fs_4 (D_fs_3 : AU X_fs_3 R_fs) : AU X_fs_4 R_fs := .of (tt_fs_4 D_fs_3)
theorem ok_fs_4 (D_fs_3 : AU X_fs_3 R_fs) (h_3 : AY J_fs S_fs_3 D_fs_3) : AY J_fs S_fs_4 (D_fs_4 D_fs_3) :=
 lk mxk (lbc h_3 rfl lbn) (sd_fs_4 D_fs_3)
def tt_fs_3 (D_fs_3 : AU X_fs_3 R_fs) (x : X_fs_3) : TT Tryz.prog R_fs :=
 (.ite (Bg x.FG ((x.B2.n : Nat) : Int))
 (.need (A3 x.FG x.B2.n) <|
 (.ite (Bg (x.B2.get (Int.toNat x.FG)) x.RD)
 (.need (A3 x.FG x.B2.n) <|
 (.AM S_fs_4 (D_fs_4 D_fs_3) (X_fs_4.mk x.B2 (x.B2.get (Int.toNat x.FG)) x.FG)))
 (.AM S_fs_4 (D_fs_4 D_fs_3) (X_fs_4.mk x.B2 x.RD x.FG))))
 (.ret x.RD))
theorem sd_fs_3 (D_fs_3 : AU X_fs_3 R_fs) (x : X_fs_3) : (tt_fs_3 D_fs_3 x).AJ :=
 (TT.sI (TT.sN (TT.sI (TT.sN TT.sJ) TT.sJ)) TT.sR)
def D_fs_3 : AU X_fs_3 R_fs := AU.loop tt_fs_3
theorem ok_fs_3 : AY J_fs S_fs_3 D_fs_3 :=
 A5 fun D_fs_3 h_3 => lk mxk (lbc h_3 rfl (lbc (ok_fs_4 D_fs_3 h_3) rfl lbn)) (sd_fs_3 D_fs_3)
def tt_fs (x : X_fs) : TT Tryz.prog R_fs :=
 (.need (A3 0 x.n) <|
 (.AM S_fs_3 D_fs_3 (X_fs_3.mk x (x.get (Int.toNat 0)) 0)))
theorem sd_fs (x : X_fs) : (tt_fs x).AJ :=
 (TT.sN TT.sJ)
def D_fs : AU X_fs R_fs := .of tt_fs
def con_fs : BC Tryz.prog :=
 Br 140 J_fs S_fs D_fs 1 0 [BJ] (lk mxk (lbc ok_fs_3 rfl lbn) sd_fs)
abbrev X_f3l : Type := TR3
abbrev R_f3l : Type := Bool
def J_f3l : BH Tryz.prog :=
 BN Tryz.prog Tryz.f87 12 [(1, 3)] [] [] [] [.any] [] [con_fs] R_f3l [] fun y => [V.bool y]
def S_f3l : AO :=
 Ah Tryz.f87 1 0 X_f3l (fun x => [e_TR3 x]) fun l => (d_TR3 (at_ l 0))
def tt_f3l (x : X_f3l) : TT Tryz.prog R_f3l :=
 (.call con_fs x.AV fun (y1 : R_fs) =>
 (.ret (Bm x.DE (IntKind.u64.wrap (x.Ax - y1)))))
theorem sd_f3l (x : X_f3l) : (tt_f3l x).AJ :=
 (TT.sC fun _ => TT.sR)
def D_f3l : AU X_f3l R_f3l := .of tt_f3l
def con_f3l : BC Tryz.prog :=
 Br 87 J_f3l S_f3l D_f3l 1 0 [sh_TR3] (lk mxk lbn sd_f3l)
abbrev X_f35 : Type := TR3 × Int
abbrev R_f35 : Type := Bool
def J_f35 : BH Tryz.prog :=
 BN Tryz.prog Tryz.f88 13 [(2, 3)] [] [] [] [.any] [] [] R_f35 [] fun y => [V.bool y]
def S_f35 : AO :=
 Ah Tryz.f88 2 0 X_f35 (fun x => [e_TR3 x.1, (V.int .i64) x.2]) fun l => (d_TR3 (at_ l 0), dI (at_ l 1))
def tt_f35 (x : X_f35) : TT Tryz.prog R_f35 :=
 (.need (A3 x.snd x.fst.AV.n) <|
 (.ret (AW (x.fst.AV.get (Int.toNat x.snd)) x.fst.Ax)))
theorem sd_f35 (x : X_f35) : (tt_f35 x).AJ :=
 (TT.sN TT.sR)
def D_f35 : AU X_f35 R_f35 := .of tt_f35
def con_f35 : BC Tryz.prog :=
 Br 88 J_f35 S_f35 D_f35 2 0 [sh_TR3, .any] (lk mxk lbn sd_f35)
abbrev X_f3w : Type := Int
abbrev R_f3w : Type := ByteArray
def J_f3w : BH Tryz.prog :=
 BN Tryz.prog Tryz.f141 19 [] [] [] [] [.any] [] [] R_f3w [] fun y => [V.str y]
def S_f3w : AO :=
 Ah Tryz.f141 1 0 X_f3w (fun x => [(V.int .i64) x]) fun l => (dI (at_ l 0))
def tt_f3w (x : X_f3w) : TT Tryz.prog R_f3w :=
 (.ite (AW x 1)
 (.ret (ByteArray.mk #[82, 84]))
 (.ite (AW x 2)
 (.ret (ByteArray.mk #[82, 84]))
 (.ite (AW x 3)
 (.ret (ByteArray.mk #[82, 84]))
 (.ite (AW x 4)
 (.ret (ByteArray.mk #[82, 84]))
 (.ite (AW x 13)
 (.ret (ByteArray.mk #[82, 84]))
 (.ite (AW x 5)
 (.ret (ByteArray.mk #[82]))
 (.ite (AW x 6)
 (.ret (ByteArray.mk #[82]))
 (.ite (AW x 7)
 (.ret (ByteArray.mk #[82]))
 (.ite (AW x 8)
 (.ret (ByteArray.mk #[86]))
 (.ite (AW x 9)
 (.ret (ByteArray.mk #[86]))
 (.ite (AW x 10)
 (.ret (ByteArray.mk #[86]))
 (.ite (AW x 12)
 (.ret (ByteArray.mk #[86]))
 (.ret (ByteArray.mk #[]))))))))))))))
theorem sd_f3w (x : X_f3w) : (tt_f3w x).AJ :=
 (TT.sI TT.sR (TT.sI TT.sR (TT.sI TT.sR (TT.sI TT.sR (TT.sI TT.sR (TT.sI TT.sR (TT.sI TT.sR (TT.sI TT.sR (TT.sI TT.sR (TT.sI TT.sR (TT.sI TT.sR (TT.sI TT.sR TT.sR))))))))))))
def D_f3w : AU X_f3w R_f3w := .of tt_f3w
def con_f3w : BC Tryz.prog :=
 Br 141 J_f3w S_f3w D_f3w 1 0 [.any] (lk mxk lbn sd_f3w)
abbrev X_f2v : Type := Int
abbrev R_f2v : Type := ByteArray
def J_f2v : BH Tryz.prog :=
 BN Tryz.prog Tryz.f142 16 [(11, 1)] [] [] [] [.any] [] [] R_f2v [] fun y => [V.str y]
def S_f2v : AO :=
 Ah Tryz.f142 1 0 X_f2v (fun x => [(V.int .i64) x]) fun l => (dI (at_ l 0))
structure X_f2v_4 where
 H5 : Int
 NH : (Sl ByteArray)
def S_f2v_4 : AO :=
 Ad Tryz.f142 4 [(0, .any), (3, QP)] [] [] X_f2v_4 (fun x => [(V.int .i64) x.H5, QW x.NH]) fun l => ⟨dI (at_ l 0), UH (at_ l 1)⟩
def tt_f2v_4 (x : X_f2v_4) : TT Tryz.prog R_f2v :=
 (.need (A3 (IntKind.i64.wrap (x.H5 - 1)) x.NH.n) <|
 (.ret (x.NH.get (Int.toNat (IntKind.i64.wrap (x.H5 - 1))))))
theorem sd_f2v_4 (x : X_f2v_4) : (tt_f2v_4 x).AJ :=
 (TT.sN TT.sR)
def D_f2v_4 : AU X_f2v_4 R_f2v := .of tt_f2v_4
theorem ok_f2v_4 : AY J_f2v S_f2v_4 D_f2v_4 :=
 lk mxk lbn sd_f2v_4
def tt_f2v (x : X_f2v) : TT Tryz.prog R_f2v :=
 (.ite (Bg x 1)
 (.ret (ByteArray.mk #[]))
 (.ite (Bg 15 x)
 (.ret (ByteArray.mk #[]))
 (.AM S_f2v_4 D_f2v_4 (X_f2v_4.mk x (Sl.mk false 15 (fun i1 => (cond (Nat.beq i1 0) (ByteArray.mk #[99, 108, 97, 105, 109]) (cond (Nat.beq i1 1) (ByteArray.mk #[112, 117, 98, 108, 105, 115, 104]) (cond (Nat.beq i1 2) (ByteArray.mk #[116, 97, 107, 101]) (cond (Nat.beq i1 3) (ByteArray.mk #[114, 101, 108, 101, 97, 115, 101]) (cond (Nat.beq i1 4) (ByteArray.mk #[110, 111]) (cond (Nat.beq i1 5) (ByteArray.mk #[115, 104, 117, 116]) (cond (Nat.beq i1 6) (ByteArray.mk #[116, 105, 109, 101]) (cond (Nat.beq i1 7) (ByteArray.mk #[99, 108, 111, 99, 107]) (cond (Nat.beq i1 8) (ByteArray.mk #[100, 114, 97, 119]) (cond (Nat.beq i1 9) (ByteArray.mk #[114, 101, 97, 100]) (cond (Nat.beq i1 10) (ByteArray.mk #[101, 110, 100]) (cond (Nat.beq i1 11) (ByteArray.mk #[115, 101, 101]) (cond (Nat.beq i1 12) (ByteArray.mk #[99, 108, 111, 115, 101]) (cond (Nat.beq i1 13) (ByteArray.mk #[104, 97, 108, 116]) (ByteArray.mk #[115, 112, 105, 110])))))))))))))))))))))
theorem sd_f2v (x : X_f2v) : (tt_f2v x).AJ :=
 (TT.sI TT.sR (TT.sI TT.sR TT.sJ))
def D_f2v : AU X_f2v R_f2v := .of tt_f2v
def con_f2v : BC Tryz.prog :=
 Br 142 J_f2v S_f2v D_f2v 1 0 [.any] (lk mxk (lbc ok_f2v_4 rfl lbn) sd_f2v)
abbrev X_f1t : Type := ByteArray × Int
abbrev R_f1t : Type := Bool
def J_f1t : BH Tryz.prog :=
 BN Tryz.prog Tryz.f143 17 [] [] [] [] [.any] [] [] R_f1t [] fun y => [V.bool y]
def S_f1t : AO :=
 Ah Tryz.f143 2 0 X_f1t (fun x => [V.str x.1, (V.int .u8) x.2]) fun l => (dS (at_ l 0), dI (at_ l 1))
structure X_f1t_2 where
 TV : ByteArray
 c_1 : Int
 Dh : Int
def S_f1t_2 : AO :=
 Ad Tryz.f143 2 (an [0, 1, 5]) [] [] X_f1t_2 (fun x => [V.str x.TV, (V.int .u8) x.c_1, (V.int .i64) x.Dh]) fun l => ⟨dS (at_ l 0), dI (at_ l 1), dI (at_ l 2)⟩
def tt_f1t_2 (D_f1t_2 : AU X_f1t_2 R_f1t) (x : X_f1t_2) : TT Tryz.prog R_f1t :=
 (.ite (Bg x.Dh (((ByteArray.size x.TV) : Nat) : Int))
 (.need (A3 x.Dh (ByteArray.size x.TV)) <|
 (.ite (AW (bt x.TV (Int.toNat x.Dh)) x.c_1)
 (.ret true)
 (.AM S_f1t_2 D_f1t_2 (X_f1t_2.mk x.TV x.c_1 (IntKind.i64.wrap (x.Dh + 1))))))
 (.ret false))
theorem sd_f1t_2 (D_f1t_2 : AU X_f1t_2 R_f1t) (x : X_f1t_2) : (tt_f1t_2 D_f1t_2 x).AJ :=
 (TT.sI (TT.sN (TT.sI TT.sR TT.sJ)) TT.sR)
def D_f1t_2 : AU X_f1t_2 R_f1t := AU.loop tt_f1t_2
theorem ok_f1t_2 : AY J_f1t S_f1t_2 D_f1t_2 :=
 A5 fun D_f1t_2 h_2 => lk mxk (lbc h_2 rfl lbn) (sd_f1t_2 D_f1t_2)
def tt_f1t (x : X_f1t) : TT Tryz.prog R_f1t :=
 (.AM S_f1t_2 D_f1t_2 (X_f1t_2.mk x.fst x.snd 0))
theorem sd_f1t (x : X_f1t) : (tt_f1t x).AJ :=
 TT.sJ
def D_f1t : AU X_f1t R_f1t := .of tt_f1t
def con_f1t : BC Tryz.prog :=
 Br 143 J_f1t S_f1t D_f1t 2 0 [.any, .any] (lk mxk (lbc ok_f1t_2 rfl lbn) sd_f1t)
abbrev X_f2g : Type := TEv
abbrev R_f2g : Type := Bool
def J_f2g : BH Tryz.prog :=
 BN Tryz.prog Tryz.f89 61 [(1, 3)] [] [] [] [.any] [] [con_f2v, con_f3w, con_f1t] R_f2g [] fun y => [V.bool y]
def S_f2g : AO :=
 Ah Tryz.f89 1 0 X_f2g (fun x => [e_TEv x]) fun l => (d_TEv (at_ l 0))
structure X_f2g_4 where
 UX : TEv
 NU : ByteArray
def S_f2g_4 : AO :=
 Ad Tryz.f89 4 (an [1, 3]) [] [] X_f2g_4 (fun x => [(CU e_TEv) x.UX, V.str x.NU]) fun l => ⟨(CV d_TEv) (at_ l 0), dS (at_ l 1)⟩
def tt_f2g_4 (x : X_f2g_4) : TT Tryz.prog R_f2g :=
 (.call con_f1t (x.NU, 82) fun (y1 : R_f1t) =>
 (.ite y1
 (.call con_f1t (x.NU, 84) fun (y2 : R_f1t) =>
 (.ite y2
 (.call con_f1t (x.NU, 86) fun (y3 : R_f1t) =>
 (.ite y3
 (.ret true)
 (.ret (AW x.UX.Value 0))))
 (.ite (AW x.UX.AG 0)
 (.call con_f1t (x.NU, 86) fun (y3 : R_f1t) =>
 (.ite y3
 (.ret true)
 (.ret (AW x.UX.Value 0))))
 (.ret false))))
 (.ite (AW x.UX.Ring 0)
 (.call con_f1t (x.NU, 84) fun (y2 : R_f1t) =>
 (.ite y2
 (.call con_f1t (x.NU, 86) fun (y3 : R_f1t) =>
 (.ite y3
 (.ret true)
 (.ret (AW x.UX.Value 0))))
 (.ite (AW x.UX.AG 0)
 (.call con_f1t (x.NU, 86) fun (y3 : R_f1t) =>
 (.ite y3
 (.ret true)
 (.ret (AW x.UX.Value 0))))
 (.ret false))))
 (.ret false))))
theorem sd_f2g_4 (x : X_f2g_4) : (tt_f2g_4 x).AJ :=
 (TT.sC fun _ => (TT.sI (TT.sC fun _ => (TT.sI (TT.sC fun _ => (TT.sI TT.sR TT.sR)) (TT.sI (TT.sC fun _ => (TT.sI TT.sR TT.sR)) TT.sR))) (TT.sI (TT.sC fun _ => (TT.sI (TT.sC fun _ => (TT.sI TT.sR TT.sR)) (TT.sI (TT.sC fun _ => (TT.sI TT.sR TT.sR)) TT.sR))) TT.sR)))
def D_f2g_4 : AU X_f2g_4 R_f2g := .of tt_f2g_4
theorem ok_f2g_4 : AY J_f2g S_f2g_4 D_f2g_4 :=
 lk mxk lbn sd_f2g_4
def tt_f2g (x : X_f2g) : TT Tryz.prog R_f2g :=
 (.call con_f3w x.Kind fun (y1 : R_f3w) =>
 (.call con_f2v x.Kind fun (y2 : R_f2v) =>
 (.ite (seq y2 (ByteArray.mk #[]))
 (.ret false)
 (.ite (Bg x.Thread 0)
 (.ret false)
 (.ite (Bg 7 x.Thread)
 (.ret false)
 (.ite (Bg x.Ring 0)
 (.ret false)
 (.ite (Bg 7 x.Ring)
 (.ret false)
 (.ite (Bm 4611686018427387904 x.AG)
 (.ret false)
 (.AM S_f2g_4 D_f2g_4 (X_f2g_4.mk x y1))))))))))
theorem sd_f2g (x : X_f2g) : (tt_f2g x).AJ :=
 (TT.sC fun _ => (TT.sC fun _ => (TT.sI TT.sR (TT.sI TT.sR (TT.sI TT.sR (TT.sI TT.sR (TT.sI TT.sR (TT.sI TT.sR TT.sJ))))))))
def D_f2g : AU X_f2g R_f2g := .of tt_f2g
def con_f2g : BC Tryz.prog :=
 Br 89 J_f2g S_f2g D_f2g 1 0 [.any] (lk mxk (lbc ok_f2g_4 rfl lbn) sd_f2g)
abbrev X_f2o : Type := TA6 × TEv
abbrev R_f2o : Type := Bool
def J_f2o : BH Tryz.prog :=
 BN Tryz.prog Tryz.f90 166 [(2, 3), (3, 3)] [] [] [] [.any] [] [] R_f2o [] fun y => [V.bool y]
def S_f2o : AO :=
 Ah Tryz.f90 2 0 X_f2o (fun x => [e_TA6 x.1, e_TEv x.2]) fun l => (d_TA6 (at_ l 0), d_TEv (at_ l 1))
structure X_f2o_2 where
 DR : TA6
 Di : TEv
 QA : Bool
def S_f2o_2 : AO :=
 Ad Tryz.f90 2 (an [2, 3, 5]) [] [] X_f2o_2 (fun x => [(CU e_TA6) x.DR, (CU e_TEv) x.Di, V.bool x.QA]) fun l => ⟨(CV d_TA6) (at_ l 0), (CV d_TEv) (at_ l 1), dB (at_ l 2)⟩
def tt_f2o_2 (x : X_f2o_2) : TT Tryz.prog R_f2o :=
 (.ite (AW x.Di.Kind 1)
 (.ite (AW x.DR.Kind 1)
 (.ret (AW x.DR.Ring x.Di.Ring))
 (.ret false))
 (.ite (AW x.Di.Kind 2)
 (.ite (AW x.DR.Kind 10)
 (.ite (AW x.DR.Ring x.Di.Ring)
 (.ret (AW x.DR.AG x.Di.AG))
 (.ret false))
 (.ret false))
 (.ite (AW x.Di.Kind 3)
 (.ite (AW x.DR.Kind 2)
 (.ret (AW x.DR.Ring x.Di.Ring))
 (.ret false))
 (.ite (AW x.Di.Kind 4)
 (.ite (AW x.DR.Kind 11)
 (.ite (AW x.DR.Ring x.Di.Ring)
 (.ret (AW x.DR.AG x.Di.AG))
 (.ret false))
 (.ret false))
 (.ite (AW x.Di.Kind 5)
 (.ite x.QA
 (.ite (AW x.DR.Mode 0)
 (.ret (AW x.DR.Ring x.Di.Ring))
 (.ret false))
 (.ret false))
 (.ite (AW x.Di.Kind 6)
 (.ite x.QA
 (.ret (AW x.DR.Ring x.Di.Ring))
 (.ret false))
 (.ite (AW x.Di.Kind 7)
 (.ite x.QA
 (.ite (AW x.DR.Mode 2)
 (.ret (AW x.DR.Ring x.Di.Ring))
 (.ret false))
 (.ret false))
 (.ite (AW x.Di.Kind 8)
 (.ret (AW x.DR.Kind 4))
 (.ite (AW x.Di.Kind 9)
 (.ret (AW x.DR.Kind 5))
 (.ite (AW x.Di.Kind 10)
 (.ret (AW x.DR.Kind 6))
 (.ite (AW x.Di.Kind 11)
 (.ret (AW x.DR.Kind 6))
 (.ite (AW x.Di.Kind 12)
 (.ite (AW x.DR.Kind 7)
 (.ret (AW x.DR.Value x.Di.Value))
 (.ret false))
 (.ite (AW x.Di.Kind 13)
 (.ite (AW x.DR.Kind 3)
 (.ret (AW x.DR.Ring x.Di.Ring))
 (.ret false))
 (.ite (AW x.Di.Kind 14)
 (.ret (AW x.DR.Kind 8))
 (.ret (AW x.DR.Kind 9))))))))))))))))
theorem sd_f2o_2 (x : X_f2o_2) : (tt_f2o_2 x).AJ :=
 (TT.sI (TT.sI TT.sR TT.sR) (TT.sI (TT.sI (TT.sI TT.sR TT.sR) TT.sR) (TT.sI (TT.sI TT.sR TT.sR) (TT.sI (TT.sI (TT.sI TT.sR TT.sR) TT.sR) (TT.sI (TT.sI (TT.sI TT.sR TT.sR) TT.sR) (TT.sI (TT.sI TT.sR TT.sR) (TT.sI (TT.sI (TT.sI TT.sR TT.sR) TT.sR) (TT.sI TT.sR (TT.sI TT.sR (TT.sI TT.sR (TT.sI TT.sR (TT.sI (TT.sI TT.sR TT.sR) (TT.sI (TT.sI TT.sR TT.sR) (TT.sI TT.sR TT.sR))))))))))))))
def D_f2o_2 : AU X_f2o_2 R_f2o := .of tt_f2o_2
theorem ok_f2o_2 : AY J_f2o S_f2o_2 D_f2o_2 :=
 lk mxk lbn sd_f2o_2
def tt_f2o (x : X_f2o) : TT Tryz.prog R_f2o :=
 (.ite (AW x.fst.Kind 1)
 (.AM S_f2o_2 D_f2o_2 (X_f2o_2.mk x.fst x.snd true))
 (.AM S_f2o_2 D_f2o_2 (X_f2o_2.mk x.fst x.snd (AW x.fst.Kind 2))))
theorem sd_f2o (x : X_f2o) : (tt_f2o x).AJ :=
 (TT.sI TT.sJ TT.sJ)
def D_f2o : AU X_f2o R_f2o := .of tt_f2o
def con_f2o : BC Tryz.prog :=
 Br 90 J_f2o S_f2o D_f2o 2 0 [.any, .any] (lk mxk (lbc ok_f2o_2 rfl lbn) sd_f2o)
abbrev X_f3y : Type := TPg × TSt × TEv
abbrev R_f3y : Type := Int
def J_f3y : BH Tryz.prog :=
 BN Tryz.prog Tryz.f51 31 [(3, 3), (4, 3), (5, 3)] [] [] [] [.any] [] [con_f2g, con_f2o, con_f3x] R_f3y [] fun y => [(V.int .i64) y]
def S_f3y : AO :=
 Ah Tryz.f51 3 0 X_f3y (fun x => [e_TPg x.1, e_TSt x.2.1, e_TEv x.2.2]) fun l => (d_TPg (at_ l 0), d_TSt (at_ l 1), d_TEv (at_ l 2))
def tt_f3y (x : X_f3y) : TT Tryz.prog R_f3y :=
 (.call con_f2g x.snd.snd fun (y1 : R_f2g) =>
 (.ite (!y1)
 (.ret 3)
 (.ite (Bm ((x.snd.fst.AB.n : Nat) : Int) x.snd.snd.Thread)
 (.ret 5)
 (.call con_f3x (x.fst, (x.snd.fst, x.snd.snd.Thread)) fun (y2 : R_f3x) =>
 (.ite (AW y2.Kind 0)
 (.ret 11)
 (.call con_f2o (y2, x.snd.snd) fun (y3 : R_f2o) =>
 (.ite (!y3)
 (.ret 11)
 (.ret 0))))))))
theorem sd_f3y (x : X_f3y) : (tt_f3y x).AJ :=
 (TT.sC fun _ => (TT.sI TT.sR (TT.sI TT.sR (TT.sC fun _ => (TT.sI TT.sR (TT.sC fun _ => (TT.sI TT.sR TT.sR)))))))
def D_f3y : AU X_f3y R_f3y := .of tt_f3y
def con_f3y : BC Tryz.prog :=
 Br 51 J_f3y S_f3y D_f3y 3 0 [sh_TPg, sh_TSt, .any] (lk mxk lbn sd_f3y)
abbrev X_f2a : Type := Int
abbrev R_f2a : Type := Int
def J_f2a : BH Tryz.prog :=
 BN Tryz.prog Tryz.f176 14 [] [] [] [] [.any] [] [] R_f2a [] fun y => [(V.int .i64) y]
def S_f2a : AO :=
 Ah Tryz.f176 1 0 X_f2a (fun x => [(V.int .i64) x]) fun l => (dI (at_ l 0))
structure X_f2a_3 where
 JG : Int
 RD : Int
 FG : Int
def S_f2a_3 : AO :=
 Ad Tryz.f176 3 (an [0, 3, 4]) [] [] X_f2a_3 (fun x => [(V.int .i64) x.JG, (V.int .i64) x.RD, (V.int .i64) x.FG]) fun l => ⟨dI (at_ l 0), dI (at_ l 1), dI (at_ l 2)⟩
def tt_f2a_3 (D_f2a_3 : AU X_f2a_3 R_f2a) (x : X_f2a_3) : TT Tryz.prog R_f2a :=
 (.ite (Bg x.FG x.JG)
 (.AM S_f2a_3 D_f2a_3 (X_f2a_3.mk x.JG (IntKind.i64.wrap ((2 : Int) * x.RD)) (IntKind.i64.wrap (x.FG + 1))))
 (.ret (IntKind.i64.wrap (x.RD - 1))))
theorem sd_f2a_3 (D_f2a_3 : AU X_f2a_3 R_f2a) (x : X_f2a_3) : (tt_f2a_3 D_f2a_3 x).AJ :=
 (TT.sI TT.sJ TT.sR)
def D_f2a_3 : AU X_f2a_3 R_f2a := AU.loop tt_f2a_3
theorem ok_f2a_3 : AY J_f2a S_f2a_3 D_f2a_3 :=
 A5 fun D_f2a_3 h_3 => lk mxk (lbc h_3 rfl lbn) (sd_f2a_3 D_f2a_3)
def tt_f2a (x : X_f2a) : TT Tryz.prog R_f2a :=
 (.AM S_f2a_3 D_f2a_3 (X_f2a_3.mk x 1 0))
theorem sd_f2a (x : X_f2a) : (tt_f2a x).AJ :=
 TT.sJ
def D_f2a : AU X_f2a R_f2a := .of tt_f2a
def con_f2a : BC Tryz.prog :=
 Br 176 J_f2a S_f2a D_f2a 1 0 [.any] (lk mxk (lbc ok_f2a_3 rfl lbn) sd_f2a)
abbrev X_f3z : Type := TR2 × Int × TSo
abbrev R_f3z : Type := TR2
def J_f3z : BH Tryz.prog :=
 BN Tryz.prog Tryz.f175 18 [(5, 3), (7, 1)] [(3, [.close (.loc 13 0), .UW (.loc 3 0) [.B8 0 0]])] [] [.close (.loc 13 0)] [sh_TR2] [] [] R_f3z [] fun y => [e_TR2 y]
def S_f3z : AO :=
 Ah Tryz.f175 3 0 X_f3z (fun x => [e_TR2 x.1, (V.int .i64) x.2.1, e_TSo x.2.2]) fun l => (d_TR2 (at_ l 0), dI (at_ l 1), d_TSo (at_ l 2))
def tt_f3z (x : X_f3z) : TT Tryz.prog R_f3z :=
 (.need (true && (room ((0 : Nat) + x.fst.L.n) 24)) <|
 (.need (A3 x.snd.fst ((0 : Nat) + x.fst.L.n)) <|
 (.need ((Nat.beq ((0 : Nat) + x.fst.L.n) ((0 : Nat) + x.fst.L.n)) && true) <|
 (.need ((true && true) && (Nat.beq ((0 : Nat) + x.fst.L.n) ((0 : Nat) + x.fst.L.n))) <|
 (.side (∀ i1 : Nat, ((i1 < ((0 : Nat) + x.fst.L.n)) → ((true && (true && (true && true))) = true))) <|
 (.ret (TR2.mk (Sl.mk (cond (Nat.beq x.fst.L.n 0) false false) ((0 : Nat) + x.fst.L.n) (fun i1 => (TSo.mk (cond (Nat.beq i1 ((0 : Nat) + (Int.toNat x.snd.fst))) x.snd.snd.AP (cond (Nat.blt i1 0) (0 : Int) (x.fst.L.get (i1 - 0)).AP)) (cond (Nat.beq i1 ((0 : Nat) + (Int.toNat x.snd.fst))) x.snd.snd.Value (cond (Nat.blt i1 0) (0 : Int) (x.fst.L.get (i1 - 0)).Value)) (cond (Nat.beq i1 ((0 : Nat) + (Int.toNat x.snd.fst))) x.snd.snd.Left (cond (Nat.blt i1 0) (0 : Int) (x.fst.L.get (i1 - 0)).Left))))) x.fst.AR)))))))
theorem sd_f3z (x : X_f3z) : (tt_f3z x).AJ :=
 (TT.sN (TT.sN (TT.sN (TT.sN (TT.sS (fun _ _ => rfl) TT.sR)))))
def D_f3z : AU X_f3z R_f3z := .of tt_f3z
def con_f3z : BC Tryz.prog :=
 Br 175 J_f3z S_f3z D_f3z 3 0 [sh_TR2, .any, .any] (lk mxk lbn sd_f3z)
abbrev X_f4a : Type := TR2 × Int × Int
abbrev R_f4a : Type := Int × TR2
def J_f4a : BH Tryz.prog :=
 BN Tryz.prog Tryz.f144 50 [(3, 3)] [] [] [] [.any, sh_TR2] [] [con_f2a, con_f3z] R_f4a [] fun y => [V.CN (V.cons ((V.int .i64) y.1) (V.cons (e_TR2 y.2) (V.unit)))]
def S_f4a : AO :=
 Ah Tryz.f144 3 0 X_f4a (fun x => [e_TR2 x.1, (V.int .u64) x.2.1, (V.int .u64) x.2.2]) fun l => (d_TR2 (at_ l 0), dI (at_ l 1), dI (at_ l 2))
def tt_f4a (x : X_f4a) : TT Tryz.prog R_f4a :=
 (.ite (Bm 4611686018427387904 x.snd.fst)
 (.ret (1, x.fst))
 (.need (!(AW (IntKind.u64.wrap ((x.fst.L.n : Nat) : Int)) 0)) <|
 (.need (A3 (IntKind.i64.wrap (Int.tmod x.snd.fst (IntKind.u64.wrap ((x.fst.L.n : Nat) : Int)))) x.fst.L.n) <|
 (.ite (Bg (x.fst.L.get (Int.toNat (IntKind.i64.wrap (Int.tmod x.snd.fst (IntKind.u64.wrap ((x.fst.L.n : Nat) : Int)))))).AP (IntKind.u64.wrap ((2 : Int) * x.snd.fst)))
 (.ret (8, x.fst))
 (.need (A3 (IntKind.i64.wrap (Int.tmod x.snd.fst (IntKind.u64.wrap ((x.fst.L.n : Nat) : Int)))) x.fst.L.n) <|
 (.ite (Bg (IntKind.u64.wrap ((2 : Int) * x.snd.fst)) (x.fst.L.get (Int.toNat (IntKind.i64.wrap (Int.tmod x.snd.fst (IntKind.u64.wrap ((x.fst.L.n : Nat) : Int)))))).AP)
 (.ret (11, x.fst))
 (.call con_f2a x.fst.AR fun (y1 : R_f2a) =>
 (.call con_f3z (x.fst, ((IntKind.i64.wrap (Int.tmod x.snd.fst (IntKind.u64.wrap ((x.fst.L.n : Nat) : Int)))), (TSo.mk (IntKind.u64.wrap ((IntKind.u64.wrap ((2 : Int) * x.snd.fst)) + 1)) x.snd.snd y1))) fun (y2 : R_f3z) =>
 (.ret (0, y2))))))))))
theorem sd_f4a (x : X_f4a) : (tt_f4a x).AJ :=
 (TT.sI TT.sR (TT.sN (TT.sN (TT.sI TT.sR (TT.sN (TT.sI TT.sR (TT.sC fun _ => (TT.sC fun _ => TT.sR))))))))
def D_f4a : AU X_f4a R_f4a := .of tt_f4a
def con_f4a : BC Tryz.prog :=
 Br 144 J_f4a S_f4a D_f4a 3 0 [sh_TR2, .any, .any] (lk mxk lbn sd_f4a)
abbrev X_f31 : Type := TR3 × Int × Int
abbrev R_f31 : Type := Int × TR3
def J_f31 : BH Tryz.prog :=
 BN Tryz.prog Tryz.f93 27 [(15, 1)] [] [] [] [.any, sh_TR3] [] [con_f4a] R_f31 [] fun y => [V.CN (V.cons ((V.int .i64) y.1) (V.cons (e_TR3 y.2) (V.unit)))]
def S_f31 : AO :=
 Ah Tryz.f93 3 0 X_f31 (fun x => [e_TR3 x.1, (V.int .u64) x.2.1, (V.int .u64) x.2.2]) fun l => (d_TR3 (at_ l 0), dI (at_ l 1), dI (at_ l 2))
def tt_f31 (x : X_f31) : TT Tryz.prog R_f31 :=
 (.ite (Bm x.fst.Ax x.snd.fst)
 (.ret (11, x.fst))
 (.call con_f4a (x.fst.S, x.snd) fun (y1 : R_f4a) =>
 (.ret (y1.fst, (TR3.mk x.fst.DE x.fst.Ax x.fst.AV x.fst.Ao y1.snd)))))
theorem sd_f31 (x : X_f31) : (tt_f31 x).AJ :=
 (TT.sI TT.sR (TT.sC fun _ => TT.sR))
def D_f31 : AU X_f31 R_f31 := .of tt_f31
def con_f31 : BC Tryz.prog :=
 Br 93 J_f31 S_f31 D_f31 3 0 [sh_TR3, .any, .any] (lk mxk lbn sd_f31)
abbrev X_f2f : Type := Int × Int
abbrev R_f2f : Type := Bool
def J_f2f : BH Tryz.prog :=
 BN Tryz.prog Tryz.f177 16 [] [] [] [] [.any] [] [] R_f2f [] fun y => [V.bool y]
def S_f2f : AO :=
 Ah Tryz.f177 2 0 X_f2f (fun x => [(V.int .i64) x.1, (V.int .i64) x.2]) fun l => (dI (at_ l 0), dI (at_ l 1))
structure X_f2f_2 where
 Pk : Int
 FF : Int
 Dh : Int
def S_f2f_2 : AO :=
 Ad Tryz.f177 2 (an [0, 1, 5]) [] [] X_f2f_2 (fun x => [(V.int .i64) x.Pk, (V.int .i64) x.FF, (V.int .i64) x.Dh]) fun l => ⟨dI (at_ l 0), dI (at_ l 1), dI (at_ l 2)⟩
def tt_f2f_2 (D_f2f_2 : AU X_f2f_2 R_f2f) (x : X_f2f_2) : TT Tryz.prog R_f2f :=
 (.ite (Bg x.Dh x.FF)
 (.AM S_f2f_2 D_f2f_2 (X_f2f_2.mk (IntKind.i64.wrap (Int.tdiv x.Pk 2)) x.FF (IntKind.i64.wrap (x.Dh + 1))))
 (.ret (AW (Int.tmod x.Pk 2) 1)))
theorem sd_f2f_2 (D_f2f_2 : AU X_f2f_2 R_f2f) (x : X_f2f_2) : (tt_f2f_2 D_f2f_2 x).AJ :=
 (TT.sI TT.sJ TT.sR)
def D_f2f_2 : AU X_f2f_2 R_f2f := AU.loop tt_f2f_2
theorem ok_f2f_2 : AY J_f2f S_f2f_2 D_f2f_2 :=
 A5 fun D_f2f_2 h_2 => lk mxk (lbc h_2 rfl lbn) (sd_f2f_2 D_f2f_2)
def tt_f2f (x : X_f2f) : TT Tryz.prog R_f2f :=
 (.AM S_f2f_2 D_f2f_2 (X_f2f_2.mk x.fst x.snd 0))
theorem sd_f2f (x : X_f2f) : (tt_f2f x).AJ :=
 TT.sJ
def D_f2f : AU X_f2f R_f2f := .of tt_f2f
def con_f2f : BC Tryz.prog :=
 Br 177 J_f2f S_f2f D_f2f 2 0 [.any, .any] (lk mxk (lbc ok_f2f_2 rfl lbn) sd_f2f)
abbrev X_f1e : Type := TR2 × Int × Int
abbrev R_f1e : Type := Int × Int × TR2
def J_f1e : BH Tryz.prog :=
 BN Tryz.prog Tryz.f145 83 [(3, 3)] [] [] [] [.any, .any, sh_TR2] [] [con_f2a, con_f2f, con_f3z] R_f1e [] fun y => [V.CN (V.cons ((V.int .u64) y.1) (V.cons ((V.int .i64) y.2.1) (V.cons (e_TR2 y.2.2) (V.unit))))]
def S_f1e : AO :=
 Ah Tryz.f145 3 0 X_f1e (fun x => [e_TR2 x.1, (V.int .i64) x.2.1, (V.int .u64) x.2.2]) fun l => (d_TR2 (at_ l 0), dI (at_ l 1), dI (at_ l 2))
structure X_f1e_3 where
 FF : Int
 Lh : Int
 EK : TR2
 Gi : TR2
def S_f1e_3 : AO :=
 Ad Tryz.f145 3 (an [1, 2, 3, 8]) [] [(.loc 8 0, sh_TR2)] X_f1e_3 (fun x => [(V.int .i64) x.FF, (V.int .u64) x.Lh, (CU e_TR2) x.EK, (V.ptr (.loc 8 0) []), e_TR2 x.Gi]) fun l => ⟨dI (at_ l 0), dI (at_ l 1), (CV d_TR2) (at_ l 2), d_TR2 (at_ l 4)⟩
structure X_f1e_9 where
 FF : Int
 Lh : Int
 EK : TR2
 Hd : Int
 Gi : TR2
 B5 : TSo
def S_f1e_9 : AO :=
 Ad Tryz.f145 9 (an [1, 2, 3, 8, 9, 10]) [] [(.loc 8 0, sh_TR2), (.loc 10 0, .any)] X_f1e_9 (fun x => [(V.int .i64) x.FF, (V.int .u64) x.Lh, (CU e_TR2) x.EK, (V.ptr (.loc 8 0) []), (V.int .i64) x.Hd, (V.ptr (.loc 10 0) []), e_TR2 x.Gi, e_TSo x.B5]) fun l => ⟨dI (at_ l 0), dI (at_ l 1), (CV d_TR2) (at_ l 2), dI (at_ l 4), d_TR2 (at_ l 6), d_TSo (at_ l 7)⟩
structure X_f1e_13 where
 EK : TR2
 Hd : Int
 VG : Int
 Gi : TR2
 B5 : TSo
def S_f1e_13 : AO :=
 Ad Tryz.f145 13 (an [3, 8, 9, 10, 11]) [] [(.loc 8 0, sh_TR2), (.loc 10 0, .any)] X_f1e_13 (fun x => [(CU e_TR2) x.EK, (V.ptr (.loc 8 0) []), (V.int .i64) x.Hd, (V.ptr (.loc 10 0) []), (V.int .u64) x.VG, e_TR2 x.Gi, e_TSo x.B5]) fun l => ⟨(CV d_TR2) (at_ l 0), dI (at_ l 2), dI (at_ l 4), d_TR2 (at_ l 5), d_TSo (at_ l 6)⟩
def tt_f1e_13 (x : X_f1e_13) : TT Tryz.prog R_f1e :=
 (.call con_f3z (x.EK, (x.Hd, x.B5)) fun (y1 : R_f3z) =>
 (.ret (x.VG, (0, y1))))
theorem sd_f1e_13 (x : X_f1e_13) : (tt_f1e_13 x).AJ :=
 (TT.sC fun _ => TT.sR)
def D_f1e_13 : AU X_f1e_13 R_f1e := .of tt_f1e_13
theorem ok_f1e_13 : AY J_f1e S_f1e_13 D_f1e_13 :=
 lk mxk lbn sd_f1e_13
def tt_f1e_9 (x : X_f1e_9) : TT Tryz.prog R_f1e :=
 (.call con_f2a x.FF fun (y1 : R_f2a) =>
 (.ite (AW (IntKind.i64.wrap (x.B5.Left - (IntKind.i64.wrap (y1 + 1)))) 0)
 (.AM S_f1e_13 D_f1e_13 (X_f1e_13.mk x.EK x.Hd x.B5.Value x.Gi (TSo.mk (IntKind.u64.wrap ((2 : Int) * (IntKind.u64.wrap (x.Lh + (IntKind.u64.wrap ((x.EK.L.n : Nat) : Int)))))) 0 0)))
 (.AM S_f1e_13 D_f1e_13 (X_f1e_13.mk x.EK x.Hd x.B5.Value x.Gi (TSo.mk x.B5.AP x.B5.Value (IntKind.i64.wrap (x.B5.Left - (IntKind.i64.wrap (y1 + 1)))))))))
theorem sd_f1e_9 (x : X_f1e_9) : (tt_f1e_9 x).AJ :=
 (TT.sC fun _ => (TT.sI TT.sJ TT.sJ))
def D_f1e_9 : AU X_f1e_9 R_f1e := .of tt_f1e_9
theorem ok_f1e_9 : AY J_f1e S_f1e_9 D_f1e_9 :=
 lk mxk (lbc ok_f1e_13 rfl lbn) sd_f1e_9
def tt_f1e_3 (x : X_f1e_3) : TT Tryz.prog R_f1e :=
 (.need (!(AW (IntKind.u64.wrap ((x.EK.L.n : Nat) : Int)) 0)) <|
 (.need (A3 (IntKind.i64.wrap (Int.tmod x.Lh (IntKind.u64.wrap ((x.EK.L.n : Nat) : Int)))) x.EK.L.n) <|
 (.ite (Bg (x.EK.L.get (Int.toNat (IntKind.i64.wrap (Int.tmod x.Lh (IntKind.u64.wrap ((x.EK.L.n : Nat) : Int)))))).AP (IntKind.u64.wrap ((IntKind.u64.wrap ((2 : Int) * x.Lh)) + 1)))
 (.ret (0, (9, x.EK)))
 (.ite (Bg (IntKind.u64.wrap ((IntKind.u64.wrap ((2 : Int) * x.Lh)) + 1)) (x.EK.L.get (Int.toNat (IntKind.i64.wrap (Int.tmod x.Lh (IntKind.u64.wrap ((x.EK.L.n : Nat) : Int)))))).AP)
 (.ret (0, (11, x.EK)))
 (.call con_f2f ((x.EK.L.get (Int.toNat (IntKind.i64.wrap (Int.tmod x.Lh (IntKind.u64.wrap ((x.EK.L.n : Nat) : Int)))))).Left, x.FF) fun (y1 : R_f2f) =>
 (.ite (!y1)
 (.ret (0, (11, x.EK)))
 (.AM S_f1e_9 D_f1e_9 (X_f1e_9.mk x.FF x.Lh x.EK (IntKind.i64.wrap (Int.tmod x.Lh (IntKind.u64.wrap ((x.EK.L.n : Nat) : Int)))) x.Gi (x.EK.L.get (Int.toNat (IntKind.i64.wrap (Int.tmod x.Lh (IntKind.u64.wrap ((x.EK.L.n : Nat) : Int))))))))))))))
theorem sd_f1e_3 (x : X_f1e_3) : (tt_f1e_3 x).AJ :=
 (TT.sN (TT.sN (TT.sI TT.sR (TT.sI TT.sR (TT.sC fun _ => (TT.sI TT.sR TT.sJ))))))
def D_f1e_3 : AU X_f1e_3 R_f1e := .of tt_f1e_3
theorem ok_f1e_3 : AY J_f1e S_f1e_3 D_f1e_3 :=
 lk mxk (lbc ok_f1e_13 rfl (lbc ok_f1e_9 rfl lbn)) sd_f1e_3
def tt_f1e (x : X_f1e) : TT Tryz.prog R_f1e :=
 (.ite (Bm 4611686018427387904 x.snd.snd)
 (.ret (0, (1, x.fst)))
 (.ite (Bg x.snd.fst 0)
 (.ret (0, (1, x.fst)))
 (.ite (Bm x.fst.AR x.snd.fst)
 (.ret (0, (1, x.fst)))
 (.AM S_f1e_3 D_f1e_3 (X_f1e_3.mk x.snd.fst x.snd.snd x.fst (TR2.mk (Sl.mk true 0 (fun _i1 => (TSo.mk 0 0 0))) 0))))))
theorem sd_f1e (x : X_f1e) : (tt_f1e x).AJ :=
 (TT.sI TT.sR (TT.sI TT.sR (TT.sI TT.sR TT.sJ)))
def D_f1e : AU X_f1e R_f1e := .of tt_f1e
def con_f1e : BC Tryz.prog :=
 Br 145 J_f1e S_f1e D_f1e 3 0 [sh_TR2, .any, .any] (lk mxk (lbc ok_f1e_13 rfl (lbc ok_f1e_9 rfl (lbc ok_f1e_3 rfl lbn))) sd_f1e)
abbrev X_f1p : Type := TR3 × Int × Int
abbrev R_f1p : Type := Int × Int × TR3
def J_f1p : BH Tryz.prog :=
 BN Tryz.prog Tryz.f95 44 [(30, 1)] [] [] [] [.any, .any, sh_TR3] [] [con_f1e] R_f1p [] fun y => [V.CN (V.cons ((V.int .u64) y.1) (V.cons ((V.int .i64) y.2.1) (V.cons (e_TR3 y.2.2) (V.unit))))]
def S_f1p : AO :=
 Ah Tryz.f95 3 0 X_f1p (fun x => [e_TR3 x.1, (V.int .i64) x.2.1, (V.int .u64) x.2.2]) fun l => (d_TR3 (at_ l 0), dI (at_ l 1), dI (at_ l 2))
structure X_f1p_3 where
 FF : Int
 Lh : Int
 BM : TR3
 Gi : TR3
def S_f1p_3 : AO :=
 Ad Tryz.f95 3 (an [1, 2, 3, 8]) [] [(.loc 3 0, sh_TR3), (.loc 8 0, sh_TR3)] X_f1p_3 (fun x => [(V.int .i64) x.FF, (V.int .u64) x.Lh, (V.ptr (.loc 3 0) []), (V.ptr (.loc 8 0) []), e_TR3 x.BM, e_TR3 x.Gi]) fun l => ⟨dI (at_ l 0), dI (at_ l 1), d_TR3 (at_ l 4), d_TR3 (at_ l 5)⟩
def tt_f1p_3 (x : X_f1p_3) : TT Tryz.prog R_f1p :=
 (.need (A3 x.FF x.BM.AV.n) <|
 (.ite (Bm (x.BM.AV.get (Int.toNat x.FF)) x.Lh)
 (.ret (0, (11, x.BM)))
 (.call con_f1e (x.BM.S, (x.FF, x.Lh)) fun (y1 : R_f1e) =>
 (.ret (y1.fst, (y1.snd.fst, (TR3.mk x.BM.DE x.BM.Ax x.BM.AV x.BM.Ao y1.snd.snd)))))))
theorem sd_f1p_3 (x : X_f1p_3) : (tt_f1p_3 x).AJ :=
 (TT.sN (TT.sI TT.sR (TT.sC fun _ => TT.sR)))
def D_f1p_3 : AU X_f1p_3 R_f1p := .of tt_f1p_3
theorem ok_f1p_3 : AY J_f1p S_f1p_3 D_f1p_3 :=
 lk mxk lbn sd_f1p_3
def tt_f1p (x : X_f1p) : TT Tryz.prog R_f1p :=
 (.ite (Bg x.snd.fst 0)
 (.ret (0, (1, x.fst)))
 (.ite (Bm ((x.fst.AV.n : Nat) : Int) x.snd.fst)
 (.ret (0, (1, x.fst)))
 (.AM S_f1p_3 D_f1p_3 (X_f1p_3.mk x.snd.fst x.snd.snd x.fst (TR3.mk 0 0 (Sl.mk true 0 (fun _i1 => (0 : Int))) false (TR2.mk (Sl.mk true 0 (fun _i1 => (TSo.mk 0 0 0))) 0))))))
theorem sd_f1p (x : X_f1p) : (tt_f1p x).AJ :=
 (TT.sI TT.sR (TT.sI TT.sR TT.sJ))
def D_f1p : AU X_f1p R_f1p := .of tt_f1p
def con_f1p : BC Tryz.prog :=
 Br 95 J_f1p S_f1p D_f1p 3 0 [sh_TR3, .any, .any] (lk mxk (lbc ok_f1p_3 rfl lbn) sd_f1p)
abbrev X_f3m : Type := TPg × TSt × TA6 × TEv × Bool
abbrev R_f3m : Type := Bool
def J_f3m : BH Tryz.prog :=
 BN Tryz.prog Tryz.f91 92 [(5, 3), (6, 3), (7, 3), (8, 3), (46, 1), (75, 1)] [] [] [] [.any] [] [con_f3l, con_f31, con_f1p, con_f35, con_f3f] R_f3m [] fun y => [V.bool y]
def S_f3m : AO :=
 Ah Tryz.f91 5 0 X_f3m (fun x => [e_TPg x.1, e_TSt x.2.1, e_TA6 x.2.2.1, e_TEv x.2.2.2.1, V.bool x.2.2.2.2]) fun l => (d_TPg (at_ l 0), d_TSt (at_ l 1), d_TA6 (at_ l 2), d_TEv (at_ l 3), dB (at_ l 4))
def tt_f3m (x : X_f3m) : TT Tryz.prog R_f3m :=
 (.call con_f3f (x.fst, (x.snd.fst, x.snd.snd.snd.fst.Ring)) fun (y1 : R_f3f) =>
 (.ite (AW x.snd.snd.snd.fst.Kind 1)
 (.ite x.snd.snd.snd.snd
 (.ite (!y1.Ao)
 (.call con_f3l y1 fun (y2 : R_f3l) =>
 (.ite (!y2)
 (.ret (AW x.snd.snd.snd.fst.AG y1.Ax))
 (.ret false)))
 (.ret false))
 (.call con_f3l y1 fun (y2 : R_f3l) =>
 (.ite (!y2)
 (.ret (AW x.snd.snd.snd.fst.AG y1.Ax))
 (.ret false))))
 (.ite (AW x.snd.snd.snd.fst.Kind 2)
 (.call con_f31 (y1, (x.snd.snd.snd.fst.AG, 0)) fun (y2 : R_f31) =>
 (.ret (AW y2.fst 0)))
 (.ite (AW x.snd.snd.snd.fst.Kind 3)
 (.call con_f35 (y1, x.snd.snd.fst.Reader) fun (y2 : R_f35) =>
 (.ite (!y2)
 (.need (A3 x.snd.snd.fst.Reader y1.AV.n) <|
 (.ret (AW x.snd.snd.snd.fst.AG (y1.AV.get (Int.toNat x.snd.snd.fst.Reader)))))
 (.ret false)))
 (.ite (AW x.snd.snd.snd.fst.Kind 4)
 (.call con_f1p (y1, (x.snd.snd.fst.Reader, x.snd.snd.snd.fst.AG)) fun (y2 : R_f1p) =>
 (.ret (AW y2.snd.fst 0)))
 (.ret (AW x.snd.snd.snd.fst.AG y1.Ax)))))))
theorem sd_f3m (x : X_f3m) : (tt_f3m x).AJ :=
 (TT.sC fun _ => (TT.sI (TT.sI (TT.sI (TT.sC fun _ => (TT.sI TT.sR TT.sR)) TT.sR) (TT.sC fun _ => (TT.sI TT.sR TT.sR))) (TT.sI (TT.sC fun _ => TT.sR) (TT.sI (TT.sC fun _ => (TT.sI (TT.sN TT.sR) TT.sR)) (TT.sI (TT.sC fun _ => TT.sR) TT.sR)))))
def D_f3m : AU X_f3m R_f3m := .of tt_f3m
def con_f3m : BC Tryz.prog :=
 Br 91 J_f3m S_f3m D_f3m 5 0 [sh_TPg, sh_TSt, .any, .any, .any] (lk mxk lbn sd_f3m)
abbrev X_f12 : Type := TPg × TSt × TA6 × TEv
abbrev R_f12 : Type := Bool
def J_f12 : BH Tryz.prog :=
 BN Tryz.prog Tryz.f92 47 [(4, 3), (5, 3), (6, 3), (7, 3)] [] [] [] [.any] [] [con_f3l, con_f35, con_f3f] R_f12 [] fun y => [V.bool y]
def S_f12 : AO :=
 Ah Tryz.f92 4 0 X_f12 (fun x => [e_TPg x.1, e_TSt x.2.1, e_TA6 x.2.2.1, e_TEv x.2.2.2]) fun l => (d_TPg (at_ l 0), d_TSt (at_ l 1), d_TA6 (at_ l 2), d_TEv (at_ l 3))
structure X_f12_3 where
 PC : TEv
 QK : Bool
 MO : TR3
def S_f12_3 : AO :=
 Ad Tryz.f92 3 (an [7, 9, 10]) [] [(.loc 9 0, sh_TR3)] X_f12_3 (fun x => [(CU e_TEv) x.PC, (V.ptr (.loc 9 0) []), V.bool x.QK, e_TR3 x.MO]) fun l => ⟨(CV d_TEv) (at_ l 0), dB (at_ l 2), d_TR3 (at_ l 3)⟩
def tt_f12_3 (x : X_f12_3) : TT Tryz.prog R_f12 :=
 (.ite x.QK
 (.ret (x.MO.Ao == (AW x.PC.Kind 6)))
 (.ret false))
theorem sd_f12_3 (x : X_f12_3) : (tt_f12_3 x).AJ :=
 (TT.sI TT.sR TT.sR)
def D_f12_3 : AU X_f12_3 R_f12 := .of tt_f12_3
theorem ok_f12_3 : AY J_f12 S_f12_3 D_f12_3 :=
 lk mxk lbn sd_f12_3
def tt_f12 (x : X_f12) : TT Tryz.prog R_f12 :=
 (.call con_f3f (x.fst, (x.snd.fst, x.snd.snd.snd.Ring)) fun (y1 : R_f3f) =>
 (.ite (AW x.snd.snd.fst.Kind 1)
 (.ite y1.Ao
 (.AM S_f12_3 D_f12_3 (X_f12_3.mk x.snd.snd.snd true y1))
 (.call con_f3l y1 fun (y2 : R_f3l) =>
 (.ite y2
 (.AM S_f12_3 D_f12_3 (X_f12_3.mk x.snd.snd.snd true y1))
 (.ite (AW x.snd.snd.fst.Kind 2)
 (.call con_f35 (y1, x.snd.snd.fst.Reader) fun (y3 : R_f35) =>
 (.AM S_f12_3 D_f12_3 (X_f12_3.mk x.snd.snd.snd y3 y1)))
 (.AM S_f12_3 D_f12_3 (X_f12_3.mk x.snd.snd.snd false y1))))))
 (.ite (AW x.snd.snd.fst.Kind 2)
 (.call con_f35 (y1, x.snd.snd.fst.Reader) fun (y2 : R_f35) =>
 (.AM S_f12_3 D_f12_3 (X_f12_3.mk x.snd.snd.snd y2 y1)))
 (.AM S_f12_3 D_f12_3 (X_f12_3.mk x.snd.snd.snd false y1)))))
theorem sd_f12 (x : X_f12) : (tt_f12 x).AJ :=
 (TT.sC fun _ => (TT.sI (TT.sI TT.sJ (TT.sC fun _ => (TT.sI TT.sJ (TT.sI (TT.sC fun _ => TT.sJ) TT.sJ)))) (TT.sI (TT.sC fun _ => TT.sJ) TT.sJ)))
def D_f12 : AU X_f12 R_f12 := .of tt_f12
def con_f12 : BC Tryz.prog :=
 Br 92 J_f12 S_f12 D_f12 4 0 [sh_TPg, sh_TSt, .any, .any] (lk mxk (lbc ok_f12_3 rfl lbn) sd_f12)
abbrev X_f32 : Type := TPg × TSt × TEv
abbrev R_f32 : Type := Bool
def J_f32 : BH Tryz.prog :=
 BN Tryz.prog Tryz.f52 60 [(3, 3), (4, 3), (5, 3)] [] [] [] [.any] [] [con_f3x, con_f3y, con_f12, con_f3m] R_f32 [] fun y => [V.bool y]
def S_f32 : AO :=
 Ah Tryz.f52 3 0 X_f32 (fun x => [e_TPg x.1, e_TSt x.2.1, e_TEv x.2.2]) fun l => (d_TPg (at_ l 0), d_TSt (at_ l 1), d_TEv (at_ l 2))
def tt_f32 (x : X_f32) : TT Tryz.prog R_f32 :=
 (.call con_f3y (x.fst, (x.snd.fst, x.snd.snd)) fun (y1 : R_f3y) =>
 (.ite (!(AW y1 0))
 (.ret false)
 (.call con_f3x (x.fst, (x.snd.fst, x.snd.snd.Thread)) fun (y2 : R_f3x) =>
 (.ite (AW x.snd.snd.Kind 1)
 (.call con_f3m (x.fst, (x.snd.fst, (y2, (x.snd.snd, true)))) fun (y3 : R_f3m) =>
 (.ret y3))
 (.ite (AW x.snd.snd.Kind 2)
 (.call con_f3m (x.fst, (x.snd.fst, (y2, (x.snd.snd, true)))) fun (y3 : R_f3m) =>
 (.ret y3))
 (.ite (AW x.snd.snd.Kind 3)
 (.call con_f3m (x.fst, (x.snd.fst, (y2, (x.snd.snd, true)))) fun (y3 : R_f3m) =>
 (.ret y3))
 (.ite (AW x.snd.snd.Kind 4)
 (.call con_f3m (x.fst, (x.snd.fst, (y2, (x.snd.snd, true)))) fun (y3 : R_f3m) =>
 (.ret y3))
 (.ite (AW x.snd.snd.Kind 13)
 (.call con_f3m (x.fst, (x.snd.fst, (y2, (x.snd.snd, true)))) fun (y3 : R_f3m) =>
 (.ret y3))
 (.ite (AW x.snd.snd.Kind 5)
 (.call con_f12 (x.fst, (x.snd.fst, (y2, x.snd.snd))) fun (y3 : R_f12) =>
 (.ret y3))
 (.ite (AW x.snd.snd.Kind 6)
 (.call con_f12 (x.fst, (x.snd.fst, (y2, x.snd.snd))) fun (y3 : R_f12) =>
 (.ret y3))
 (.ite (AW x.snd.snd.Kind 7)
 (.call con_f12 (x.fst, (x.snd.fst, (y2, x.snd.snd))) fun (y3 : R_f12) =>
 (.ret y3))
 (.ite (AW x.snd.snd.Kind 8)
 (.ite (Bm x.snd.fst.FQ x.snd.snd.Value)
 (.ret (Bg (IntKind.u64.wrap (x.snd.snd.Value - x.snd.fst.FQ)) 1048576))
 (.ret false))
 (.ite (AW x.snd.snd.Kind 10)
 (.ret (!x.snd.fst.Ba))
 (.ret true))))))))))))))
theorem sd_f32 (x : X_f32) : (tt_f32 x).AJ :=
 (TT.sC fun _ => (TT.sI TT.sR (TT.sC fun _ => (TT.sI (TT.sC fun _ => TT.sR) (TT.sI (TT.sC fun _ => TT.sR) (TT.sI (TT.sC fun _ => TT.sR) (TT.sI (TT.sC fun _ => TT.sR) (TT.sI (TT.sC fun _ => TT.sR) (TT.sI (TT.sC fun _ => TT.sR) (TT.sI (TT.sC fun _ => TT.sR) (TT.sI (TT.sC fun _ => TT.sR) (TT.sI (TT.sI TT.sR TT.sR) (TT.sI TT.sR TT.sR)))))))))))))
def D_f32 : AU X_f32 R_f32 := .of tt_f32
def con_f32 : BC Tryz.prog :=
 Br 52 J_f32 S_f32 D_f32 3 0 [sh_TPg, sh_TSt, .any] (lk mxk lbn sd_f32)
abbrev X_f7 : Type := TPg × TSt × Int × Int × Bool × Bool
abbrev R_f7 : Type := TEv × Bool
def J_f7 : BH Tryz.prog :=
 BN Tryz.prog Tryz.f50 172 [(6, 3), (7, 3)] [] [] [] [.any, .any] [] [con_f3l, con_f32, con_f3x, con_f35, con_f3f] R_f7 [] fun y => [V.CN (V.cons (e_TEv y.1) (V.cons (V.bool y.2) (V.unit)))]
def S_f7 : AO :=
 Ah Tryz.f50 6 0 X_f7 (fun x => [e_TPg x.1, e_TSt x.2.1, (V.int .i64) x.2.2.1, (V.int .u64) x.2.2.2.1, V.bool x.2.2.2.2.1, V.bool x.2.2.2.2.2]) fun l => (d_TPg (at_ l 0), d_TSt (at_ l 1), dI (at_ l 2), dI (at_ l 3), dB (at_ l 4), dB (at_ l 5))
structure X_f7_8 where
 DO : Bool
 H0 : TPg
 Hx : TSt
 EO : TEv
 Dp : TA6
 Cq : TEv
def S_f7_8 : AO :=
 Ad Tryz.f50 8 (an [5, 6, 7, 12, 14, 15]) [] [(.loc 12 0, .any), (.loc 14 0, .any), (.loc 15 0, .any)] X_f7_8 (fun x => [V.bool x.DO, (CU e_TPg) x.H0, (CU e_TSt) x.Hx, (V.ptr (.loc 12 0) []), (V.ptr (.loc 14 0) []), (V.ptr (.loc 15 0) []), e_TEv x.EO, e_TA6 x.Dp, e_TEv x.Cq]) fun l => ⟨dB (at_ l 0), (CV d_TPg) (at_ l 1), (CV d_TSt) (at_ l 2), d_TEv (at_ l 6), d_TA6 (at_ l 7), d_TEv (at_ l 8)⟩
structure X_f7_12 where
 DO : Bool
 H0 : TPg
 Hx : TSt
 C9 : Bool
 EO : TEv
 Dp : TA6
 Cq : TEv
 C1 : TR3
def S_f7_12 : AO :=
 Ad Tryz.f50 12 (an [5, 6, 7, 12, 14, 15, 16, 17]) [] [(.loc 12 0, .any), (.loc 14 0, .any), (.loc 15 0, .any), (.loc 16 0, sh_TR3)] X_f7_12 (fun x => [V.bool x.DO, (CU e_TPg) x.H0, (CU e_TSt) x.Hx, (V.ptr (.loc 12 0) []), (V.ptr (.loc 14 0) []), (V.ptr (.loc 15 0) []), (V.ptr (.loc 16 0) []), V.bool x.C9, e_TEv x.EO, e_TA6 x.Dp, e_TEv x.Cq, e_TR3 x.C1]) fun l => ⟨dB (at_ l 0), (CV d_TPg) (at_ l 1), (CV d_TSt) (at_ l 2), dB (at_ l 7), d_TEv (at_ l 8), d_TA6 (at_ l 9), d_TEv (at_ l 10), d_TR3 (at_ l 11)⟩
structure X_f7_14 where
 DO : Bool
 H0 : TPg
 Hx : TSt
 C9 : Bool
 EO : TEv
 Dp : TA6
 Cq : TEv
 C1 : TR3
def S_f7_14 : AO :=
 Ad Tryz.f50 14 (an [5, 6, 7, 12, 14, 15, 16, 17]) [] [(.loc 12 0, .any), (.loc 14 0, .any), (.loc 15 0, .any), (.loc 16 0, sh_TR3)] X_f7_14 (fun x => [V.bool x.DO, (CU e_TPg) x.H0, (CU e_TSt) x.Hx, (V.ptr (.loc 12 0) []), (V.ptr (.loc 14 0) []), (V.ptr (.loc 15 0) []), (V.ptr (.loc 16 0) []), V.bool x.C9, e_TEv x.EO, e_TA6 x.Dp, e_TEv x.Cq, e_TR3 x.C1]) fun l => ⟨dB (at_ l 0), (CV d_TPg) (at_ l 1), (CV d_TSt) (at_ l 2), dB (at_ l 7), d_TEv (at_ l 8), d_TA6 (at_ l 9), d_TEv (at_ l 10), d_TR3 (at_ l 11)⟩
structure X_f7_16 where
 DO : Bool
 H0 : TPg
 Hx : TSt
 C9 : Bool
 EO : TEv
 Dp : TA6
 Cq : TEv
 C1 : TR3
def S_f7_16 : AO :=
 Ad Tryz.f50 16 (an [5, 6, 7, 12, 14, 15, 16, 17]) [] [(.loc 12 0, .any), (.loc 14 0, .any), (.loc 15 0, .any), (.loc 16 0, sh_TR3)] X_f7_16 (fun x => [V.bool x.DO, (CU e_TPg) x.H0, (CU e_TSt) x.Hx, (V.ptr (.loc 12 0) []), (V.ptr (.loc 14 0) []), (V.ptr (.loc 15 0) []), (V.ptr (.loc 16 0) []), V.bool x.C9, e_TEv x.EO, e_TA6 x.Dp, e_TEv x.Cq, e_TR3 x.C1]) fun l => ⟨dB (at_ l 0), (CV d_TPg) (at_ l 1), (CV d_TSt) (at_ l 2), dB (at_ l 7), d_TEv (at_ l 8), d_TA6 (at_ l 9), d_TEv (at_ l 10), d_TR3 (at_ l 11)⟩
structure X_f7_20 where
 H0 : TPg
 Hx : TSt
 EO : TEv
 Dp : TA6
 Cq : TEv
 C1 : TR3
def S_f7_20 : AO :=
 Ad Tryz.f50 20 (an [6, 7, 12, 14, 15, 16]) [] [(.loc 12 0, .any), (.loc 14 0, .any), (.loc 15 0, .any), (.loc 16 0, sh_TR3)] X_f7_20 (fun x => [(CU e_TPg) x.H0, (CU e_TSt) x.Hx, (V.ptr (.loc 12 0) []), (V.ptr (.loc 14 0) []), (V.ptr (.loc 15 0) []), (V.ptr (.loc 16 0) []), e_TEv x.EO, e_TA6 x.Dp, e_TEv x.Cq, e_TR3 x.C1]) fun l => ⟨(CV d_TPg) (at_ l 0), (CV d_TSt) (at_ l 1), d_TEv (at_ l 6), d_TA6 (at_ l 7), d_TEv (at_ l 8), d_TR3 (at_ l 9)⟩
structure X_f7_46 where
 H0 : TPg
 Hx : TSt
 EO : TEv
 Cq : TEv
def S_f7_46 : AO :=
 Ad Tryz.f50 46 (an [6, 7, 12, 15]) [] [(.loc 12 0, .any), (.loc 15 0, .any)] X_f7_46 (fun x => [(CU e_TPg) x.H0, (CU e_TSt) x.Hx, (V.ptr (.loc 12 0) []), (V.ptr (.loc 15 0) []), e_TEv x.EO, e_TEv x.Cq]) fun l => ⟨(CV d_TPg) (at_ l 0), (CV d_TSt) (at_ l 1), d_TEv (at_ l 4), d_TEv (at_ l 5)⟩
def tt_f7_46 (x : X_f7_46) : TT Tryz.prog R_f7 :=
 (.call con_f32 (x.H0, (x.Hx, x.Cq)) fun (y1 : R_f32) =>
 (.ret (x.Cq, y1)))
theorem sd_f7_46 (x : X_f7_46) : (tt_f7_46 x).AJ :=
 (TT.sC fun _ => TT.sR)
def D_f7_46 : AU X_f7_46 R_f7 := .of tt_f7_46
theorem ok_f7_46 : AY J_f7 S_f7_46 D_f7_46 :=
 lk mxk lbn sd_f7_46
def tt_f7_20 (x : X_f7_20) : TT Tryz.prog R_f7 :=
 (.ite (AW x.Dp.Kind 1)
 (.AM S_f7_46 D_f7_46 (X_f7_46.mk x.H0 x.Hx x.EO (TEv.mk x.Cq.Thread 1 x.Cq.Ring x.C1.Ax x.Cq.Value)))
 (.need (A3 x.Dp.Reader x.C1.AV.n) <|
 (.AM S_f7_46 D_f7_46 (X_f7_46.mk x.H0 x.Hx x.EO (TEv.mk x.Cq.Thread 3 x.Cq.Ring (x.C1.AV.get (Int.toNat x.Dp.Reader)) x.Cq.Value)))))
theorem sd_f7_20 (x : X_f7_20) : (tt_f7_20 x).AJ :=
 (TT.sI TT.sJ (TT.sN TT.sJ))
def D_f7_20 : AU X_f7_20 R_f7 := .of tt_f7_20
theorem ok_f7_20 : AY J_f7 S_f7_20 D_f7_20 :=
 lk mxk (lbc ok_f7_46 rfl lbn) sd_f7_20
def tt_f7_16 (x : X_f7_16) : TT Tryz.prog R_f7 :=
 (.ite x.C9
 (.ite (AW x.Dp.Mode 2)
 (.ite x.DO
 (.AM S_f7_46 D_f7_46 (X_f7_46.mk x.H0 x.Hx x.EO (TEv.mk x.Cq.Thread 7 x.Cq.Ring x.Cq.AG x.Cq.Value)))
 (.ite x.C9
 (.ret ((TEv.mk 0 0 0 0 0), false))
 (.AM S_f7_20 D_f7_20 (X_f7_20.mk x.H0 x.Hx x.EO x.Dp x.Cq x.C1))))
 (.ite x.C9
 (.ret ((TEv.mk 0 0 0 0 0), false))
 (.AM S_f7_20 D_f7_20 (X_f7_20.mk x.H0 x.Hx x.EO x.Dp x.Cq x.C1))))
 (.ite x.C9
 (.ret ((TEv.mk 0 0 0 0 0), false))
 (.AM S_f7_20 D_f7_20 (X_f7_20.mk x.H0 x.Hx x.EO x.Dp x.Cq x.C1))))
theorem sd_f7_16 (x : X_f7_16) : (tt_f7_16 x).AJ :=
 (TT.sI (TT.sI (TT.sI TT.sJ (TT.sI TT.sR TT.sJ)) (TT.sI TT.sR TT.sJ)) (TT.sI TT.sR TT.sJ))
def D_f7_16 : AU X_f7_16 R_f7 := .of tt_f7_16
theorem ok_f7_16 : AY J_f7 S_f7_16 D_f7_16 :=
 lk mxk (lbc ok_f7_46 rfl (lbc ok_f7_20 rfl lbn)) sd_f7_16
def tt_f7_14 (x : X_f7_14) : TT Tryz.prog R_f7 :=
 (.ite x.C9
 (.ite (AW x.Dp.Mode 0)
 (.AM S_f7_46 D_f7_46 (X_f7_46.mk x.H0 x.Hx x.EO (TEv.mk x.Cq.Thread 5 x.Cq.Ring x.Cq.AG x.Cq.Value)))
 (.AM S_f7_16 D_f7_16 (X_f7_16.mk x.DO x.H0 x.Hx x.C9 x.EO x.Dp x.Cq x.C1)))
 (.AM S_f7_16 D_f7_16 (X_f7_16.mk x.DO x.H0 x.Hx x.C9 x.EO x.Dp x.Cq x.C1)))
theorem sd_f7_14 (x : X_f7_14) : (tt_f7_14 x).AJ :=
 (TT.sI (TT.sI TT.sJ TT.sJ) TT.sJ)
def D_f7_14 : AU X_f7_14 R_f7 := .of tt_f7_14
theorem ok_f7_14 : AY J_f7 S_f7_14 D_f7_14 :=
 lk mxk (lbc ok_f7_46 rfl (lbc ok_f7_20 rfl (lbc ok_f7_16 rfl lbn))) sd_f7_14
def tt_f7_12 (x : X_f7_12) : TT Tryz.prog R_f7 :=
 (.ite x.C9
 (.ite x.C1.Ao
 (.AM S_f7_46 D_f7_46 (X_f7_46.mk x.H0 x.Hx x.EO (TEv.mk x.Cq.Thread 6 x.Cq.Ring x.Cq.AG x.Cq.Value)))
 (.AM S_f7_14 D_f7_14 (X_f7_14.mk x.DO x.H0 x.Hx x.C9 x.EO x.Dp x.Cq x.C1)))
 (.AM S_f7_14 D_f7_14 (X_f7_14.mk x.DO x.H0 x.Hx x.C9 x.EO x.Dp x.Cq x.C1)))
theorem sd_f7_12 (x : X_f7_12) : (tt_f7_12 x).AJ :=
 (TT.sI (TT.sI TT.sJ TT.sJ) TT.sJ)
def D_f7_12 : AU X_f7_12 R_f7 := .of tt_f7_12
theorem ok_f7_12 : AY J_f7 S_f7_12 D_f7_12 :=
 lk mxk (lbc ok_f7_46 rfl (lbc ok_f7_20 rfl (lbc ok_f7_16 rfl (lbc ok_f7_14 rfl lbn)))) sd_f7_12
def tt_f7_8 (x : X_f7_8) : TT Tryz.prog R_f7 :=
 (.call con_f3f (x.H0, (x.Hx, x.Dp.Ring)) fun (y1 : R_f3f) =>
 (.ite (AW x.Dp.Kind 1)
 (.ite y1.Ao
 (.AM S_f7_12 D_f7_12 (X_f7_12.mk x.DO x.H0 x.Hx true x.EO x.Dp x.Cq y1))
 (.call con_f3l y1 fun (y2 : R_f3l) =>
 (.ite y2
 (.AM S_f7_12 D_f7_12 (X_f7_12.mk x.DO x.H0 x.Hx true x.EO x.Dp x.Cq y1))
 (.ite (AW x.Dp.Kind 2)
 (.call con_f35 (y1, x.Dp.Reader) fun (y3 : R_f35) =>
 (.AM S_f7_12 D_f7_12 (X_f7_12.mk x.DO x.H0 x.Hx y3 x.EO x.Dp x.Cq y1)))
 (.AM S_f7_12 D_f7_12 (X_f7_12.mk x.DO x.H0 x.Hx false x.EO x.Dp x.Cq y1))))))
 (.ite (AW x.Dp.Kind 2)
 (.call con_f35 (y1, x.Dp.Reader) fun (y2 : R_f35) =>
 (.AM S_f7_12 D_f7_12 (X_f7_12.mk x.DO x.H0 x.Hx y2 x.EO x.Dp x.Cq y1)))
 (.AM S_f7_12 D_f7_12 (X_f7_12.mk x.DO x.H0 x.Hx false x.EO x.Dp x.Cq y1)))))
theorem sd_f7_8 (x : X_f7_8) : (tt_f7_8 x).AJ :=
 (TT.sC fun _ => (TT.sI (TT.sI TT.sJ (TT.sC fun _ => (TT.sI TT.sJ (TT.sI (TT.sC fun _ => TT.sJ) TT.sJ)))) (TT.sI (TT.sC fun _ => TT.sJ) TT.sJ)))
def D_f7_8 : AU X_f7_8 R_f7 := .of tt_f7_8
theorem ok_f7_8 : AY J_f7 S_f7_8 D_f7_8 :=
 lk mxk (lbc ok_f7_46 rfl (lbc ok_f7_20 rfl (lbc ok_f7_16 rfl (lbc ok_f7_14 rfl (lbc ok_f7_12 rfl lbn))))) sd_f7_8
def tt_f7 (x : X_f7) : TT Tryz.prog R_f7 :=
 (.call con_f3x (x.fst, (x.snd.fst, x.snd.snd.fst)) fun (y1 : R_f3x) =>
 (.ite (AW y1.Kind 0)
 (.ret ((TEv.mk 0 0 0 0 0), false))
 (.ite (AW y1.Kind 1)
 (.AM S_f7_8 D_f7_8 (X_f7_8.mk x.snd.snd.snd.snd.snd x.fst x.snd.fst (TEv.mk 0 0 0 0 0) y1 (TEv.mk x.snd.snd.fst 0 y1.Ring 0 0)))
 (.ite (AW y1.Kind 2)
 (.AM S_f7_8 D_f7_8 (X_f7_8.mk x.snd.snd.snd.snd.snd x.fst x.snd.fst (TEv.mk 0 0 0 0 0) y1 (TEv.mk x.snd.snd.fst 0 y1.Ring 0 0)))
 (.ite (AW y1.Kind 3)
 (.need (A3 y1.Ring x.snd.fst.AF.n) <|
 (.AM S_f7_46 D_f7_46 (X_f7_46.mk x.fst x.snd.fst (TEv.mk 0 0 0 0 0) (TEv.mk x.snd.snd.fst 13 y1.Ring (x.snd.fst.AF.get (Int.toNat y1.Ring)).Ax 0))))
 (.ite (AW y1.Kind 4)
 (.AM S_f7_46 D_f7_46 (X_f7_46.mk x.fst x.snd.fst (TEv.mk 0 0 0 0 0) (TEv.mk x.snd.snd.fst 8 0 0 (IntKind.u64.wrap (x.snd.fst.FQ + (Int.tmod x.snd.snd.snd.fst 1048576))))))
 (.ite (AW y1.Kind 5)
 (.AM S_f7_46 D_f7_46 (X_f7_46.mk x.fst x.snd.fst (TEv.mk 0 0 0 0 0) (TEv.mk x.snd.snd.fst 9 y1.Ring 0 x.snd.snd.snd.fst)))
 (.ite (AW y1.Kind 6)
 (.ite x.snd.snd.snd.snd.fst
 (.AM S_f7_46 D_f7_46 (X_f7_46.mk x.fst x.snd.fst (TEv.mk 0 0 0 0 0) (TEv.mk x.snd.snd.fst 11 0 0 0)))
 (.ite x.snd.fst.Ba
 (.AM S_f7_46 D_f7_46 (X_f7_46.mk x.fst x.snd.fst (TEv.mk 0 0 0 0 0) (TEv.mk x.snd.snd.fst 11 0 0 0)))
 (.AM S_f7_46 D_f7_46 (X_f7_46.mk x.fst x.snd.fst (TEv.mk 0 0 0 0 0) (TEv.mk x.snd.snd.fst 10 y1.Ring 0 x.snd.snd.snd.fst)))))
 (.ite (AW y1.Kind 7)
 (.AM S_f7_46 D_f7_46 (X_f7_46.mk x.fst x.snd.fst (TEv.mk 0 0 0 0 0) (TEv.mk x.snd.snd.fst 12 y1.Ring 0 y1.Value)))
 (.ite (AW y1.Kind 8)
 (.AM S_f7_46 D_f7_46 (X_f7_46.mk x.fst x.snd.fst (TEv.mk 0 0 0 0 0) (TEv.mk x.snd.snd.fst (IntKind.i64.wrap (y1.Kind + 6)) y1.Ring 0 0)))
 (.ite (AW y1.Kind 9)
 (.AM S_f7_46 D_f7_46 (X_f7_46.mk x.fst x.snd.fst (TEv.mk 0 0 0 0 0) (TEv.mk x.snd.snd.fst (IntKind.i64.wrap (y1.Kind + 6)) y1.Ring 0 0)))
 (.ite (AW y1.Kind 10)
 (.AM S_f7_46 D_f7_46 (X_f7_46.mk x.fst x.snd.fst (TEv.mk 0 0 0 0 0) (TEv.mk x.snd.snd.fst (IntKind.i64.wrap ((2 : Int) * (IntKind.i64.wrap (y1.Kind - 9)))) y1.Ring y1.AG 0)))
 (.ite (AW y1.Kind 11)
 (.AM S_f7_46 D_f7_46 (X_f7_46.mk x.fst x.snd.fst (TEv.mk 0 0 0 0 0) (TEv.mk x.snd.snd.fst (IntKind.i64.wrap ((2 : Int) * (IntKind.i64.wrap (y1.Kind - 9)))) y1.Ring y1.AG 0)))
 (.AM S_f7_46 D_f7_46 (X_f7_46.mk x.fst x.snd.fst (TEv.mk 0 0 0 0 0) (TEv.mk x.snd.snd.fst 0 y1.Ring 0 0))))))))))))))))
theorem sd_f7 (x : X_f7) : (tt_f7 x).AJ :=
 (TT.sC fun _ => (TT.sI TT.sR (TT.sI TT.sJ (TT.sI TT.sJ (TT.sI (TT.sN TT.sJ) (TT.sI TT.sJ (TT.sI TT.sJ (TT.sI (TT.sI TT.sJ (TT.sI TT.sJ TT.sJ)) (TT.sI TT.sJ (TT.sI TT.sJ (TT.sI TT.sJ (TT.sI TT.sJ (TT.sI TT.sJ TT.sJ)))))))))))))
def D_f7 : AU X_f7 R_f7 := .of tt_f7
def con_f7 : BC Tryz.prog :=
 Br 50 J_f7 S_f7 D_f7 6 0 [sh_TPg, sh_TSt, .any, .any, .any, .any] (lk mxk (lbc ok_f7_46 rfl (lbc ok_f7_20 rfl (lbc ok_f7_16 rfl (lbc ok_f7_14 rfl (lbc ok_f7_12 rfl (lbc ok_f7_8 rfl lbn)))))) sd_f7)
abbrev X_f1a : Type := TPg × TSt × (Sl Int) × AZ
abbrev R_f1a : Type := TEv × Bool
def J_f1a : BH Tryz.prog :=
 BN Tryz.prog Tryz.f19 69 [(4, 3), (5, 3), (7, 3), (48, 1), (53, 1)] [] [] [] [.any, .any] [] [con_f3x, con_f7] R_f1a [] fun y => [V.CN (V.cons (e_TEv y.1) (V.cons (V.bool y.2) (V.unit)))]
def S_f1a : AO :=
 Ah Tryz.f19 4 0 X_f1a (fun x => [e_TPg x.1, e_TSt x.2.1, BB x.2.2.1, BW x.2.2.2]) fun l => (d_TPg (at_ l 0), d_TSt (at_ l 1), BV (at_ l 2), Bc (at_ l 3))
structure X_f1a_3 where
 HB : (Sl Int)
 To : TPg
 PB : TSt
 PC : AZ
 Gi : TEv
def S_f1a_3 : AO :=
 Ad Tryz.f19 3 [(2, BJ), (4, .any), (5, .any), (7, .any), (8, .any)] [] [(.loc 8 0, .any)] X_f1a_3 (fun x => [BB x.HB, (CU e_TPg) x.To, (CU e_TSt) x.PB, (CU BW) x.PC, (V.ptr (.loc 8 0) []), e_TEv x.Gi]) fun l => ⟨BV (at_ l 0), (CV d_TPg) (at_ l 1), (CV d_TSt) (at_ l 2), (CV Bc) (at_ l 3), d_TEv (at_ l 5)⟩
structure X_f1a_10 where
 To : TPg
 PB : TSt
 PC : AZ
 VH : Int
 S3 : Bool
 Gi : TEv
def S_f1a_10 : AO :=
 Ad Tryz.f19 10 (an [4, 5, 7, 8, 10, 11]) [] [(.loc 8 0, .any)] X_f1a_10 (fun x => [(CU e_TPg) x.To, (CU e_TSt) x.PB, (CU BW) x.PC, (V.ptr (.loc 8 0) []), (V.int .u64) x.VH, V.bool x.S3, e_TEv x.Gi]) fun l => ⟨(CV d_TPg) (at_ l 0), (CV d_TSt) (at_ l 1), (CV Bc) (at_ l 2), dI (at_ l 4), dB (at_ l 5), d_TEv (at_ l 6)⟩
def tt_f1a_10 (x : X_f1a_10) : TT Tryz.prog R_f1a :=
 (.call con_f7 (x.To, (x.PB, (x.PC.B4, (x.VH, (x.S3, x.PC.Hn))))) fun (y1 : R_f7) =>
 (.ite (!y1.snd)
 (.ret ((TEv.mk 0 0 0 0 0), false))
 (.ret (y1.fst, true))))
theorem sd_f1a_10 (x : X_f1a_10) : (tt_f1a_10 x).AJ :=
 (TT.sC fun _ => (TT.sI TT.sR TT.sR))
def D_f1a_10 : AU X_f1a_10 R_f1a := .of tt_f1a_10
theorem ok_f1a_10 : AY J_f1a S_f1a_10 D_f1a_10 :=
 lk mxk lbn sd_f1a_10
def tt_f1a_3 (x : X_f1a_3) : TT Tryz.prog R_f1a :=
 (.call con_f3x (x.To, (x.PB, x.PC.B4)) fun (y1 : R_f3x) =>
 (.ite (AW y1.Kind 5)
 (.AM S_f1a_10 D_f1a_10 (X_f1a_10.mk x.To x.PB x.PC x.PC.Gx (Bm (IntKind.u64.wrap ((x.HB.n : Nat) : Int)) x.PB.Reads) x.Gi))
 (.ite (AW y1.Kind 6)
 (.ite (!(Bm (IntKind.u64.wrap ((x.HB.n : Nat) : Int)) x.PB.Reads))
 (.need (A3 x.PB.Reads x.HB.n) <|
 (.AM S_f1a_10 D_f1a_10 (X_f1a_10.mk x.To x.PB x.PC (x.HB.get (Int.toNat x.PB.Reads)) (Bm (IntKind.u64.wrap ((x.HB.n : Nat) : Int)) x.PB.Reads) x.Gi)))
 (.AM S_f1a_10 D_f1a_10 (X_f1a_10.mk x.To x.PB x.PC x.PC.Dj (Bm (IntKind.u64.wrap ((x.HB.n : Nat) : Int)) x.PB.Reads) x.Gi)))
 (.AM S_f1a_10 D_f1a_10 (X_f1a_10.mk x.To x.PB x.PC x.PC.Dj (Bm (IntKind.u64.wrap ((x.HB.n : Nat) : Int)) x.PB.Reads) x.Gi)))))
theorem sd_f1a_3 (x : X_f1a_3) : (tt_f1a_3 x).AJ :=
 (TT.sC fun _ => (TT.sI TT.sJ (TT.sI (TT.sI (TT.sN TT.sJ) TT.sJ) TT.sJ)))
def D_f1a_3 : AU X_f1a_3 R_f1a := .of tt_f1a_3
theorem ok_f1a_3 : AY J_f1a S_f1a_3 D_f1a_3 :=
 lk mxk (lbc ok_f1a_10 rfl lbn) sd_f1a_3
def tt_f1a (x : X_f1a) : TT Tryz.prog R_f1a :=
 (.ite (Bg x.snd.snd.snd.B4 0)
 (.ret ((TEv.mk 0 0 0 0 0), false))
 (.ite (Bm ((x.snd.fst.AB.n : Nat) : Int) x.snd.snd.snd.B4)
 (.ret ((TEv.mk 0 0 0 0 0), false))
 (.AM S_f1a_3 D_f1a_3 (X_f1a_3.mk x.snd.snd.fst x.fst x.snd.fst x.snd.snd.snd (TEv.mk 0 0 0 0 0)))))
theorem sd_f1a (x : X_f1a) : (tt_f1a x).AJ :=
 (TT.sI TT.sR (TT.sI TT.sR TT.sJ))
def D_f1a : AU X_f1a R_f1a := .of tt_f1a
def con_f1a : BC Tryz.prog :=
 Br 19 J_f1a S_f1a D_f1a 4 0 [sh_TPg, sh_TSt, BJ, .any] (lk mxk (lbc ok_f1a_10 rfl (lbc ok_f1a_3 rfl lbn)) sd_f1a)
abbrev X_f2s : Type := TR3 × Int
abbrev R_f2s : Type := Int × Int × TR3
def J_f2s : BH Tryz.prog :=
 BN Tryz.prog Tryz.f94 51 [(29, 1)] [(9, [.close (.loc 38 0), .close (.loc 35 0), .UW (.loc 2 0) [.B8 2 2]])] [(8, [.IC (.loc 2 0) [.B8 2 2] 35, .IC (.loc 2 0) [.B8 2 2] 38])] [.close (.loc 38 0), .close (.loc 35 0)] [.any, .any, sh_TR3] [] [] R_f2s [(0, [⟨.loc 35 0, .loc 2 0, [.B8 2 2], none, none⟩, ⟨.loc 38 0, .loc 2 0, [.B8 2 2], none, none⟩]), (3, [⟨.loc 35 0, .loc 2 0, [.B8 2 2], none, none⟩, ⟨.loc 38 0, .loc 2 0, [.B8 2 2], none, none⟩])] fun y => [V.CN (V.cons ((V.int .u64) y.1) (V.cons ((V.int .i64) y.2.1) (V.cons (e_TR3 y.2.2) (V.unit))))]
def S_f2s : AO :=
 Ah Tryz.f94 2 0 X_f2s (fun x => [e_TR3 x.1, (V.int .i64) x.2]) fun l => (d_TR3 (at_ l 0), dI (at_ l 1))
structure X_f2s_3 where
 FF : Int
 Bp : TR3
 Fs : TR3
def S_f2s_3 : AO :=
 Ad Tryz.f94 3 (an [1, 2, 6]) [] [(.loc 2 0, sh_TR3), (.loc 6 0, sh_TR3)] X_f2s_3 (fun x => [(V.int .i64) x.FF, (V.ptr (.loc 2 0) []), (V.ptr (.loc 6 0) []), e_TR3 x.Bp, e_TR3 x.Fs]) fun l => ⟨dI (at_ l 0), d_TR3 (at_ l 3), d_TR3 (at_ l 4)⟩
def tt_f2s_3 (x : X_f2s_3) : TT Tryz.prog R_f2s :=
 (.need (A3 x.FF x.Bp.AV.n) <|
 (.ite (AW (x.Bp.AV.get (Int.toNat x.FF)) x.Bp.Ax)
 (.ite x.Bp.Ao
 (.ret (0, (10, x.Bp)))
 (.ret (0, (9, x.Bp))))
 (.need (true && (room ((0 : Nat) + x.Bp.AV.n) 8)) <|
 (.need (A3 x.FF ((0 : Nat) + x.Bp.AV.n)) <|
 (.need ((Nat.beq ((0 : Nat) + x.Bp.AV.n) ((0 : Nat) + x.Bp.AV.n)) && true) <|
 (.need (A3 x.FF ((0 : Nat) + x.Bp.AV.n)) <|
 (.need ((Nat.beq ((0 : Nat) + x.Bp.AV.n) ((0 : Nat) + x.Bp.AV.n)) && true) <|
 (.need ((true && true) && (Nat.beq ((0 : Nat) + x.Bp.AV.n) ((0 : Nat) + x.Bp.AV.n))) <|
 (.side (∀ i1 : Nat, ((i1 < ((0 : Nat) + x.Bp.AV.n)) → (true = true))) <|
 (.need (A3 x.FF ((0 : Nat) + x.Bp.AV.n)) <|
 (.ret ((IntKind.u64.wrap ((cond (Nat.beq (Int.toNat x.FF) ((0 : Nat) + (Int.toNat x.FF))) (IntKind.u64.wrap ((cond (Nat.blt ((0 : Nat) + (Int.toNat x.FF)) 0) (0 : Int) (x.Bp.AV.get (((0 : Nat) + (Int.toNat x.FF)) - 0))) + 1)) (cond (Nat.blt (Int.toNat x.FF) 0) (0 : Int) (x.Bp.AV.get ((Int.toNat x.FF) - 0)))) - 1)), (0, (TR3.mk x.Bp.DE x.Bp.Ax (Sl.mk (cond (Nat.beq x.Bp.AV.n 0) false false) ((0 : Nat) + x.Bp.AV.n) (fun i1 => (cond (Nat.beq i1 ((0 : Nat) + (Int.toNat x.FF))) (IntKind.u64.wrap ((cond (Nat.blt ((0 : Nat) + (Int.toNat x.FF)) 0) (0 : Int) (x.Bp.AV.get (((0 : Nat) + (Int.toNat x.FF)) - 0))) + 1)) (cond (Nat.blt i1 0) (0 : Int) (x.Bp.AV.get (i1 - 0)))))) x.Bp.Ao x.Bp.S))))))))))))))
theorem sd_f2s_3 (x : X_f2s_3) : (tt_f2s_3 x).AJ :=
 (TT.sN (TT.sI (TT.sI TT.sR TT.sR) (TT.sN (TT.sN (TT.sN (TT.sN (TT.sN (TT.sN (TT.sS (fun _ _ => rfl) (TT.sN TT.sR))))))))))
def D_f2s_3 : AU X_f2s_3 R_f2s := .of tt_f2s_3
theorem ok_f2s_3 : AY J_f2s S_f2s_3 D_f2s_3 :=
 lk mxk lbn sd_f2s_3
def tt_f2s (x : X_f2s) : TT Tryz.prog R_f2s :=
 (.ite (Bg x.snd 0)
 (.ret (0, (1, x.fst)))
 (.ite (Bm ((x.fst.AV.n : Nat) : Int) x.snd)
 (.ret (0, (1, x.fst)))
 (.AM S_f2s_3 D_f2s_3 (X_f2s_3.mk x.snd x.fst (TR3.mk 0 0 (Sl.mk true 0 (fun _i1 => (0 : Int))) false (TR2.mk (Sl.mk true 0 (fun _i1 => (TSo.mk 0 0 0))) 0))))))
theorem sd_f2s (x : X_f2s) : (tt_f2s x).AJ :=
 (TT.sI TT.sR (TT.sI TT.sR TT.sJ))
def D_f2s : AU X_f2s R_f2s := .of tt_f2s
def con_f2s : BC Tryz.prog :=
 Br 94 J_f2s S_f2s D_f2s 2 0 [sh_TR3, .any] (lk mxk (lbc ok_f2s_3 rfl lbn) sd_f2s)
abbrev X_fq : Type := (Sl TIn) × TTh × TEv × Int
abbrev R_fq : Type := TTh
def J_fq : BH Tryz.prog :=
 BN Tryz.prog Tryz.f96 117 [(6, 3), (35, 1)] [] [] [] [sh_TTh] [] [] R_fq [] fun y => [e_TTh y]
def S_fq : AO :=
 Ah Tryz.f96 4 0 X_fq (fun x => [esl_TIn x.1, e_TTh x.2.1, e_TEv x.2.2.1, (V.int .u64) x.2.2.2]) fun l => (dsl_TIn (at_ l 0), d_TTh (at_ l 1), d_TEv (at_ l 2), dI (at_ l 3))
structure X_fq_12 where
 B2 : (Sl TIn)
 VF : Int
 Iq : TEv
 BD : TTh
 Gi : TTh
def S_fq_12 : AO :=
 Ad Tryz.f96 12 [(0, hsl_TIn), (3, .any), (5, .any), (6, .any), (8, .any)] [] [(.loc 5 0, sh_TTh), (.loc 8 0, sh_TTh)] X_fq_12 (fun x => [esl_TIn x.B2, (V.int .u64) x.VF, (V.ptr (.loc 5 0) []), (CU e_TEv) x.Iq, (V.ptr (.loc 8 0) []), e_TTh x.BD, e_TTh x.Gi]) fun l => ⟨dsl_TIn (at_ l 0), dI (at_ l 1), (CV d_TEv) (at_ l 3), d_TTh (at_ l 5), d_TTh (at_ l 6)⟩
structure X_fq_33 where
 BD : TTh
 Gi : TTh
def S_fq_33 : AO :=
 Ad Tryz.f96 33 (an [5, 8]) [] [(.loc 5 0, sh_TTh), (.loc 8 0, sh_TTh)] X_fq_33 (fun x => [(V.ptr (.loc 5 0) []), (V.ptr (.loc 8 0) []), e_TTh x.BD, e_TTh x.Gi]) fun l => ⟨d_TTh (at_ l 2), d_TTh (at_ l 3)⟩
def tt_fq_33 (x : X_fq_33) : TT Tryz.prog R_fq :=
 (.ret (TTh.mk (IntKind.i64.wrap (x.BD.At + 1)) 0 0 x.BD.Status 0 x.BD.Ae x.BD.Seen))
theorem sd_fq_33 (x : X_fq_33) : (tt_fq_33 x).AJ :=
 TT.sR
def D_fq_33 : AU X_fq_33 R_fq := .of tt_fq_33
theorem ok_fq_33 : AY J_fq S_fq_33 D_fq_33 :=
 lk mxk lbn sd_fq_33
def tt_fq_12 (x : X_fq_12) : TT Tryz.prog R_fq :=
 (.need (A3 x.BD.At x.B2.n) <|
 (.ite (AW x.Iq.Kind 2)
 (.need (A3 (x.B2.get (Int.toNat x.BD.At)).B 8) <|
 (.AM S_fq_33 D_fq_33 (X_fq_33.mk (TTh.mk x.BD.At x.BD.Phase x.BD.Ring x.BD.Status x.BD.AG (fun i1 => (cond (Nat.beq i1 (Int.toNat (x.B2.get (Int.toNat x.BD.At)).B)) (0 : Int) (x.BD.Ae i1))) x.BD.Seen) x.Gi)))
 (.ite (AW x.Iq.Kind 4)
 (.need (A3 (x.B2.get (Int.toNat x.BD.At)).A 8) <|
 (.need (A3 (x.B2.get (Int.toNat x.BD.At)).B 8) <|
 (.AM S_fq_33 D_fq_33 (X_fq_33.mk (TTh.mk x.BD.At x.BD.Phase x.BD.Ring x.BD.Status x.BD.AG (fun i1 => (cond (Nat.beq i1 (Int.toNat (x.B2.get (Int.toNat x.BD.At)).B)) (0 : Int) (cond (Nat.beq i1 (Int.toNat (x.B2.get (Int.toNat x.BD.At)).A)) x.VF (x.BD.Ae i1)))) x.BD.Seen) x.Gi))))
 (.ite (AW x.Iq.Kind 5)
 (.need (A3 (x.B2.get (Int.toNat x.BD.At)).B 8) <|
 (.AM S_fq_33 D_fq_33 (X_fq_33.mk (TTh.mk x.BD.At x.BD.Phase x.BD.Ring x.BD.Status x.BD.AG (fun i1 => (cond (Nat.beq i1 (Int.toNat (x.B2.get (Int.toNat x.BD.At)).B)) (IntKind.u64.wrap (IntKind.i64.wrap (x.Iq.Kind - 4))) (x.BD.Ae i1))) x.BD.Seen) x.Gi)))
 (.ite (AW x.Iq.Kind 6)
 (.need (A3 (x.B2.get (Int.toNat x.BD.At)).B 8) <|
 (.AM S_fq_33 D_fq_33 (X_fq_33.mk (TTh.mk x.BD.At x.BD.Phase x.BD.Ring x.BD.Status x.BD.AG (fun i1 => (cond (Nat.beq i1 (Int.toNat (x.B2.get (Int.toNat x.BD.At)).B)) (IntKind.u64.wrap (IntKind.i64.wrap (x.Iq.Kind - 4))) (x.BD.Ae i1))) x.BD.Seen) x.Gi)))
 (.ite (AW x.Iq.Kind 7)
 (.need (A3 (x.B2.get (Int.toNat x.BD.At)).B 8) <|
 (.AM S_fq_33 D_fq_33 (X_fq_33.mk (TTh.mk x.BD.At x.BD.Phase x.BD.Ring x.BD.Status x.BD.AG (fun i1 => (cond (Nat.beq i1 (Int.toNat (x.B2.get (Int.toNat x.BD.At)).B)) (IntKind.u64.wrap (IntKind.i64.wrap (x.Iq.Kind - 4))) (x.BD.Ae i1))) x.BD.Seen) x.Gi)))
 (.ite (AW x.Iq.Kind 8)
 (.need (A3 (x.B2.get (Int.toNat x.BD.At)).A 8) <|
 (.AM S_fq_33 D_fq_33 (X_fq_33.mk (TTh.mk x.BD.At x.BD.Phase x.BD.Ring x.BD.Status x.BD.AG (fun i1 => (cond (Nat.beq i1 (Int.toNat (x.B2.get (Int.toNat x.BD.At)).A)) x.Iq.Value (x.BD.Ae i1))) x.BD.Seen) x.Gi)))
 (.ite (AW x.Iq.Kind 9)
 (.need (A3 (x.B2.get (Int.toNat x.BD.At)).A 8) <|
 (.AM S_fq_33 D_fq_33 (X_fq_33.mk (TTh.mk x.BD.At x.BD.Phase x.BD.Ring x.BD.Status x.BD.AG (fun i1 => (cond (Nat.beq i1 (Int.toNat (x.B2.get (Int.toNat x.BD.At)).A)) x.Iq.Value (x.BD.Ae i1))) x.BD.Seen) x.Gi)))
 (.ite (AW x.Iq.Kind 10)
 (.need (A3 (x.B2.get (Int.toNat x.BD.At)).A 8) <|
 (.need (A3 (x.B2.get (Int.toNat x.BD.At)).B 8) <|
 (.AM S_fq_33 D_fq_33 (X_fq_33.mk (TTh.mk x.BD.At x.BD.Phase x.BD.Ring x.BD.Status x.BD.AG (fun i1 => (cond (Nat.beq i1 (Int.toNat (x.B2.get (Int.toNat x.BD.At)).B)) (0 : Int) (cond (Nat.beq i1 (Int.toNat (x.B2.get (Int.toNat x.BD.At)).A)) x.Iq.Value (x.BD.Ae i1)))) x.BD.Seen) x.Gi))))
 (.ite (AW x.Iq.Kind 11)
 (.need (A3 (x.B2.get (Int.toNat x.BD.At)).B 8) <|
 (.AM S_fq_33 D_fq_33 (X_fq_33.mk (TTh.mk x.BD.At x.BD.Phase x.BD.Ring x.BD.Status x.BD.AG (fun i1 => (cond (Nat.beq i1 (Int.toNat (x.B2.get (Int.toNat x.BD.At)).B)) (1 : Int) (x.BD.Ae i1))) x.BD.Seen) x.Gi)))
 (.ite (AW x.Iq.Kind 12)
 (.need (true && (room ((0 : Nat) + x.BD.Seen.n) 8)) <|
 (.need (true && (room (((0 : Nat) + x.BD.Seen.n) + 1) 8)) <|
 (.AM S_fq_33 D_fq_33 (X_fq_33.mk (TTh.mk x.BD.At x.BD.Phase x.BD.Ring x.BD.Status x.BD.AG x.BD.Ae (Sl.mk (cond (Nat.beq 1 0) (cond (Nat.beq x.BD.Seen.n 0) false false) false) (((0 : Nat) + x.BD.Seen.n) + 1) (fun i1 => (cond (Nat.blt i1 ((0 : Nat) + x.BD.Seen.n)) (cond (Nat.blt i1 0) (0 : Int) (x.BD.Seen.get (i1 - 0))) x.Iq.Value)))) x.Gi))))
 (.AM S_fq_33 D_fq_33 (X_fq_33.mk x.BD x.Gi)))))))))))))
theorem sd_fq_12 (x : X_fq_12) : (tt_fq_12 x).AJ :=
 (TT.sN (TT.sI (TT.sN TT.sJ) (TT.sI (TT.sN (TT.sN TT.sJ)) (TT.sI (TT.sN TT.sJ) (TT.sI (TT.sN TT.sJ) (TT.sI (TT.sN TT.sJ) (TT.sI (TT.sN TT.sJ) (TT.sI (TT.sN TT.sJ) (TT.sI (TT.sN (TT.sN TT.sJ)) (TT.sI (TT.sN TT.sJ) (TT.sI (TT.sN (TT.sN TT.sJ)) TT.sJ)))))))))))
def D_fq_12 : AU X_fq_12 R_fq := .of tt_fq_12
theorem ok_fq_12 : AY J_fq S_fq_12 D_fq_12 :=
 lk mxk (lbc ok_fq_33 rfl lbn) sd_fq_12
def tt_fq (x : X_fq) : TT Tryz.prog R_fq :=
 (.ite (AW x.snd.snd.fst.Kind 1)
 (.ret (TTh.mk x.snd.fst.At (IntKind.i64.wrap (Int.tdiv (IntKind.i64.wrap (x.snd.snd.fst.Kind + 1)) 2)) x.snd.snd.fst.Ring x.snd.fst.Status x.snd.snd.fst.AG x.snd.fst.Ae x.snd.fst.Seen))
 (.ite (AW x.snd.snd.fst.Kind 3)
 (.ret (TTh.mk x.snd.fst.At (IntKind.i64.wrap (Int.tdiv (IntKind.i64.wrap (x.snd.snd.fst.Kind + 1)) 2)) x.snd.snd.fst.Ring x.snd.fst.Status x.snd.snd.fst.AG x.snd.fst.Ae x.snd.fst.Seen))
 (.ite (AW x.snd.snd.fst.Kind 14)
 (.ret (TTh.mk x.snd.fst.At x.snd.fst.Phase x.snd.fst.Ring (IntKind.i64.wrap (x.snd.snd.fst.Kind - 13)) x.snd.fst.AG x.snd.fst.Ae x.snd.fst.Seen))
 (.ite (AW x.snd.snd.fst.Kind 15)
 (.ret (TTh.mk x.snd.fst.At x.snd.fst.Phase x.snd.fst.Ring (IntKind.i64.wrap (x.snd.snd.fst.Kind - 13)) x.snd.fst.AG x.snd.fst.Ae x.snd.fst.Seen))
 (.AM S_fq_12 D_fq_12 (X_fq_12.mk x.fst x.snd.snd.snd x.snd.snd.fst x.snd.fst (TTh.mk 0 0 0 0 0 (fun _i1 => (0 : Int)) (Sl.mk true 0 (fun _i1 => (0 : Int))))))))))
theorem sd_fq (x : X_fq) : (tt_fq x).AJ :=
 (TT.sI TT.sR (TT.sI TT.sR (TT.sI TT.sR (TT.sI TT.sR TT.sJ))))
def D_fq : AU X_fq R_fq := .of tt_fq
def con_fq : BC Tryz.prog :=
 Br 96 J_fq S_fq D_fq 4 0 [hsl_TIn, sh_TTh, .any, .any] (lk mxk (lbc ok_fq_33 rfl (lbc ok_fq_12 rfl lbn)) sd_fq)
abbrev X_f8 : Type := TPg × TSt × TEv
abbrev R_f8 : Type := TSt
def J_f8 : BH Tryz.prog :=
 BN Tryz.prog Tryz.f53 143 [(3, 3), (5, 3), (13, 1), (52, 1), (63, 1), (73, 1), (86, 1), (96, 1), (122, 1), (140, 1)] [(17, [.open_ 11]), (18, [.Eg 11, .Pr 11]), (26, [.open_ 12]), (27, [.Eg 12, .Pr 12])] [] [] [sh_TSt] [] [con_f31, con_f1p, con_f3n, con_f2s, con_fq, con_fl, con_f3f] R_f8 [] fun y => [e_TSt y]
def S_f8 : AO :=
 Ah Tryz.f53 3 0 X_f8 (fun x => [e_TPg x.1, e_TSt x.2.1, e_TEv x.2.2]) fun l => (d_TPg (at_ l 0), d_TSt (at_ l 1), d_TEv (at_ l 2))
structure X_f8_16 where
 Fi : TPg
 Fj : TEv
 Nr : Int
 CP : TSt
 Fs : TSt
 Lj : TTh
 B5 : TR3
def S_f8_16 : AO :=
 Ad Tryz.f53 16 (an [3, 4, 5, 6, 7, 9, 10]) [] [(.loc 4 0, sh_TSt), (.loc 6 0, sh_TSt), (.loc 7 0, sh_TTh), (.loc 10 0, sh_TR3)] X_f8_16 (fun x => [(CU e_TPg) x.Fi, (V.ptr (.loc 4 0) []), (CU e_TEv) x.Fj, (V.ptr (.loc 6 0) []), (V.ptr (.loc 7 0) []), (V.int .u64) x.Nr, (V.ptr (.loc 10 0) []), e_TSt x.CP, e_TSt x.Fs, e_TTh x.Lj, e_TR3 x.B5]) fun l => ⟨(CV d_TPg) (at_ l 0), (CV d_TEv) (at_ l 2), dI (at_ l 5), d_TSt (at_ l 7), d_TSt (at_ l 8), d_TTh (at_ l 9), d_TR3 (at_ l 10)⟩
structure X_f8_19 where
 Fi : TPg
 Fj : TEv
 Nr : Int
 CP : TSt
 Fs : TSt
 Lj : TTh
def S_f8_19 : AO :=
 Ad Tryz.f53 19 (an [3, 4, 5, 6, 7, 9]) [] [(.loc 4 0, sh_TSt), (.loc 6 0, sh_TSt), (.loc 7 0, sh_TTh)] X_f8_19 (fun x => [(CU e_TPg) x.Fi, (V.ptr (.loc 4 0) []), (CU e_TEv) x.Fj, (V.ptr (.loc 6 0) []), (V.ptr (.loc 7 0) []), (V.int .u64) x.Nr, e_TSt x.CP, e_TSt x.Fs, e_TTh x.Lj]) fun l => ⟨(CV d_TPg) (at_ l 0), (CV d_TEv) (at_ l 2), dI (at_ l 5), d_TSt (at_ l 6), d_TSt (at_ l 7), d_TTh (at_ l 8)⟩
structure X_f8_21 where
 Fi : TPg
 Fj : TEv
 Nr : Int
 CP : TSt
 Fs : TSt
 Lj : TTh
def S_f8_21 : AO :=
 Ad Tryz.f53 21 (an [3, 4, 5, 6, 7, 9]) [] [(.loc 4 0, sh_TSt), (.loc 6 0, sh_TSt), (.loc 7 0, sh_TTh)] X_f8_21 (fun x => [(CU e_TPg) x.Fi, (V.ptr (.loc 4 0) []), (CU e_TEv) x.Fj, (V.ptr (.loc 6 0) []), (V.ptr (.loc 7 0) []), (V.int .u64) x.Nr, e_TSt x.CP, e_TSt x.Fs, e_TTh x.Lj]) fun l => ⟨(CV d_TPg) (at_ l 0), (CV d_TEv) (at_ l 2), dI (at_ l 5), d_TSt (at_ l 6), d_TSt (at_ l 7), d_TTh (at_ l 8)⟩
structure X_f8_23 where
 Fi : TPg
 Fj : TEv
 Nr : Int
 CP : TSt
 Fs : TSt
 Lj : TTh
def S_f8_23 : AO :=
 Ad Tryz.f53 23 (an [3, 4, 5, 6, 7, 9]) [] [(.loc 4 0, sh_TSt), (.loc 6 0, sh_TSt), (.loc 7 0, sh_TTh)] X_f8_23 (fun x => [(CU e_TPg) x.Fi, (V.ptr (.loc 4 0) []), (CU e_TEv) x.Fj, (V.ptr (.loc 6 0) []), (V.ptr (.loc 7 0) []), (V.int .u64) x.Nr, e_TSt x.CP, e_TSt x.Fs, e_TTh x.Lj]) fun l => ⟨(CV d_TPg) (at_ l 0), (CV d_TEv) (at_ l 2), dI (at_ l 5), d_TSt (at_ l 6), d_TSt (at_ l 7), d_TTh (at_ l 8)⟩
structure X_f8_25 where
 Fi : TPg
 Fj : TEv
 Nr : Int
 CP : TSt
 Fs : TSt
 Lj : TTh
def S_f8_25 : AO :=
 Ad Tryz.f53 25 (an [3, 4, 5, 6, 7, 9]) [] [(.loc 4 0, sh_TSt), (.loc 6 0, sh_TSt), (.loc 7 0, sh_TTh)] X_f8_25 (fun x => [(CU e_TPg) x.Fi, (V.ptr (.loc 4 0) []), (CU e_TEv) x.Fj, (V.ptr (.loc 6 0) []), (V.ptr (.loc 7 0) []), (V.int .u64) x.Nr, e_TSt x.CP, e_TSt x.Fs, e_TTh x.Lj]) fun l => ⟨(CV d_TPg) (at_ l 0), (CV d_TEv) (at_ l 2), dI (at_ l 5), d_TSt (at_ l 6), d_TSt (at_ l 7), d_TTh (at_ l 8)⟩
def tt_f8_25 (x : X_f8_25) : TT Tryz.prog R_f8 :=
 (.need (true && (room ((0 : Nat) + x.CP.AB.n) 128)) <|
 (.need (A3 x.Fj.Thread x.Fi.AB.n) <|
 (.call con_fq ((x.Fi.AB.get (Int.toNat x.Fj.Thread)), (x.Lj, (x.Fj, x.Nr))) fun (y1 : R_fq) =>
 (.need (A3 x.Fj.Thread ((0 : Nat) + x.CP.AB.n)) <|
 (.need ((Nat.beq ((0 : Nat) + x.CP.AB.n) ((0 : Nat) + x.CP.AB.n)) && true) <|
 (.need (Nat.beq ((0 : Nat) + x.CP.AB.n) ((0 : Nat) + x.CP.AB.n)) <|
 (.side (∀ i2 : Nat, ((i2 < ((0 : Nat) + x.CP.AB.n)) → ((true && (true && (true && (true && (true && ((true && (true && (true && (true && (true && (true && (true && (true && true)))))))) && (true && true))))))) = true))) <|
 (.ret (TSt.mk (Sl.mk (cond (Nat.beq x.CP.AB.n 0) false false) ((0 : Nat) + x.CP.AB.n) (fun i2 => (TTh.mk (cond (Nat.beq i2 ((0 : Nat) + (Int.toNat x.Fj.Thread))) y1.At (cond (Nat.blt i2 0) (0 : Int) (x.CP.AB.get (i2 - 0)).At)) (cond (Nat.beq i2 ((0 : Nat) + (Int.toNat x.Fj.Thread))) y1.Phase (cond (Nat.blt i2 0) (0 : Int) (x.CP.AB.get (i2 - 0)).Phase)) (cond (Nat.beq i2 ((0 : Nat) + (Int.toNat x.Fj.Thread))) y1.Ring (cond (Nat.blt i2 0) (0 : Int) (x.CP.AB.get (i2 - 0)).Ring)) (cond (Nat.beq i2 ((0 : Nat) + (Int.toNat x.Fj.Thread))) y1.Status (cond (Nat.blt i2 0) (0 : Int) (x.CP.AB.get (i2 - 0)).Status)) (cond (Nat.beq i2 ((0 : Nat) + (Int.toNat x.Fj.Thread))) y1.AG (cond (Nat.blt i2 0) (0 : Int) (x.CP.AB.get (i2 - 0)).AG)) (fun i3 => (cond (Nat.beq i2 ((0 : Nat) + (Int.toNat x.Fj.Thread))) (y1.Ae i3) (cond (Nat.blt i2 0) (0 : Int) ((x.CP.AB.get (i2 - 0)).Ae i3)))) (Sl.mk (cond (Nat.beq i2 ((0 : Nat) + (Int.toNat x.Fj.Thread))) y1.Seen.nil (cond (Nat.blt i2 0) true (x.CP.AB.get (i2 - 0)).Seen.nil)) (cond (Nat.beq i2 ((0 : Nat) + (Int.toNat x.Fj.Thread))) y1.Seen.n (cond (Nat.blt i2 0) (0 : Nat) (x.CP.AB.get (i2 - 0)).Seen.n)) (fun i3 => (cond (Nat.beq i2 ((0 : Nat) + (Int.toNat x.Fj.Thread))) (y1.Seen.get i3) (cond (Nat.blt i2 0) (0 : Int) ((x.CP.AB.get (i2 - 0)).Seen.get i3)))))))) x.CP.AF x.CP.FQ x.CP.Reads x.CP.Ba)))))))))
theorem sd_f8_25 (x : X_f8_25) : (tt_f8_25 x).AJ :=
 (TT.sN (TT.sN (TT.sC fun _ => (TT.sN (TT.sN (TT.sN (TT.sS (fun _ _ => rfl) TT.sR)))))))
def D_f8_25 : AU X_f8_25 R_f8 := .of tt_f8_25
theorem ok_f8_25 : AY J_f8 S_f8_25 D_f8_25 :=
 lk mxk lbn sd_f8_25
def tt_f8_23 (x : X_f8_23) : TT Tryz.prog R_f8 :=
 (.ite (AW x.Fj.Kind 11)
 (.AM S_f8_25 D_f8_25 (X_f8_25.mk x.Fi x.Fj x.Nr (TSt.mk x.CP.AB x.CP.AF x.CP.FQ x.CP.Reads true) x.Fs x.Lj))
 (.AM S_f8_25 D_f8_25 (X_f8_25.mk x.Fi x.Fj x.Nr x.CP x.Fs x.Lj)))
theorem sd_f8_23 (x : X_f8_23) : (tt_f8_23 x).AJ :=
 (TT.sI TT.sJ TT.sJ)
def D_f8_23 : AU X_f8_23 R_f8 := .of tt_f8_23
theorem ok_f8_23 : AY J_f8 S_f8_23 D_f8_23 :=
 lk mxk (lbc ok_f8_25 rfl lbn) sd_f8_23
def tt_f8_21 (x : X_f8_21) : TT Tryz.prog R_f8 :=
 (.ite (AW x.Fj.Kind 10)
 (.AM S_f8_23 D_f8_23 (X_f8_23.mk x.Fi x.Fj x.Nr (TSt.mk x.CP.AB x.CP.AF x.CP.FQ (IntKind.u64.wrap (x.CP.Reads + 1)) x.CP.Ba) x.Fs x.Lj))
 (.AM S_f8_23 D_f8_23 (X_f8_23.mk x.Fi x.Fj x.Nr x.CP x.Fs x.Lj)))
theorem sd_f8_21 (x : X_f8_21) : (tt_f8_21 x).AJ :=
 (TT.sI TT.sJ TT.sJ)
def D_f8_21 : AU X_f8_21 R_f8 := .of tt_f8_21
theorem ok_f8_21 : AY J_f8 S_f8_21 D_f8_21 :=
 lk mxk (lbc ok_f8_25 rfl (lbc ok_f8_23 rfl lbn)) sd_f8_21
def tt_f8_19 (x : X_f8_19) : TT Tryz.prog R_f8 :=
 (.ite (AW x.Fj.Kind 8)
 (.ite (Bg x.CP.FQ x.Fj.Value)
 (.AM S_f8_21 D_f8_21 (X_f8_21.mk x.Fi x.Fj x.Nr (TSt.mk x.CP.AB x.CP.AF x.Fj.Value x.CP.Reads x.CP.Ba) x.Fs x.Lj))
 (.AM S_f8_21 D_f8_21 (X_f8_21.mk x.Fi x.Fj x.Nr x.CP x.Fs x.Lj)))
 (.AM S_f8_21 D_f8_21 (X_f8_21.mk x.Fi x.Fj x.Nr x.CP x.Fs x.Lj)))
theorem sd_f8_19 (x : X_f8_19) : (tt_f8_19 x).AJ :=
 (TT.sI (TT.sI TT.sJ TT.sJ) TT.sJ)
def D_f8_19 : AU X_f8_19 R_f8 := .of tt_f8_19
theorem ok_f8_19 : AY J_f8 S_f8_19 D_f8_19 :=
 lk mxk (lbc ok_f8_25 rfl (lbc ok_f8_23 rfl (lbc ok_f8_21 rfl lbn))) sd_f8_19
def tt_f8_16 (x : X_f8_16) : TT Tryz.prog R_f8 :=
 (.need (true && (room ((0 : Nat) + x.CP.AF.n) 64)) <|
 (.call con_f3n x.B5 fun (y1 : R_f3n) =>
 (.need (A3 x.Fj.Ring ((0 : Nat) + x.CP.AF.n)) <|
 (.need ((Nat.beq ((0 : Nat) + x.CP.AF.n) ((0 : Nat) + x.CP.AF.n)) && true) <|
 (.need (Nat.beq ((0 : Nat) + x.CP.AF.n) ((0 : Nat) + x.CP.AF.n)) <|
 (.side (∀ i2 : Nat, ((i2 < ((0 : Nat) + x.CP.AF.n)) → ((true && (true && (true && (true && true)))) = true))) <|
 (.AM S_f8_19 D_f8_19 (X_f8_19.mk x.Fi x.Fj x.Nr (TSt.mk x.CP.AB (Sl.mk (cond (Nat.beq x.CP.AF.n 0) false false) ((0 : Nat) + x.CP.AF.n) (fun i2 => (TRs.mk (cond (Nat.beq i2 ((0 : Nat) + (Int.toNat x.Fj.Ring))) y1.Ax (cond (Nat.blt i2 0) (0 : Int) (x.CP.AF.get (i2 - 0)).Ax)) (Sl.mk (cond (Nat.beq i2 ((0 : Nat) + (Int.toNat x.Fj.Ring))) y1.AV.nil (cond (Nat.blt i2 0) true (x.CP.AF.get (i2 - 0)).AV.nil)) (cond (Nat.beq i2 ((0 : Nat) + (Int.toNat x.Fj.Ring))) y1.AV.n (cond (Nat.blt i2 0) (0 : Nat) (x.CP.AF.get (i2 - 0)).AV.n)) (fun i3 => (cond (Nat.beq i2 ((0 : Nat) + (Int.toNat x.Fj.Ring))) (y1.AV.get i3) (cond (Nat.blt i2 0) (0 : Int) ((x.CP.AF.get (i2 - 0)).AV.get i3))))) (cond (Nat.beq i2 ((0 : Nat) + (Int.toNat x.Fj.Ring))) y1.Ao (cond (Nat.blt i2 0) false (x.CP.AF.get (i2 - 0)).Ao)) (Sl.mk (cond (Nat.beq i2 ((0 : Nat) + (Int.toNat x.Fj.Ring))) y1.Ai.nil (cond (Nat.blt i2 0) true (x.CP.AF.get (i2 - 0)).Ai.nil)) (cond (Nat.beq i2 ((0 : Nat) + (Int.toNat x.Fj.Ring))) y1.Ai.n (cond (Nat.blt i2 0) (0 : Nat) (x.CP.AF.get (i2 - 0)).Ai.n)) (fun i3 => (TSo.mk (cond (Nat.beq i2 ((0 : Nat) + (Int.toNat x.Fj.Ring))) (y1.Ai.get i3).AP (cond (Nat.blt i2 0) (0 : Int) ((x.CP.AF.get (i2 - 0)).Ai.get i3).AP)) (cond (Nat.beq i2 ((0 : Nat) + (Int.toNat x.Fj.Ring))) (y1.Ai.get i3).Value (cond (Nat.blt i2 0) (0 : Int) ((x.CP.AF.get (i2 - 0)).Ai.get i3).Value)) (cond (Nat.beq i2 ((0 : Nat) + (Int.toNat x.Fj.Ring))) (y1.Ai.get i3).Left (cond (Nat.blt i2 0) (0 : Int) ((x.CP.AF.get (i2 - 0)).Ai.get i3).Left)))))))) x.CP.FQ x.CP.Reads x.CP.Ba) x.Fs x.Lj))))))))
theorem sd_f8_16 (x : X_f8_16) : (tt_f8_16 x).AJ :=
 (TT.sN (TT.sC fun _ => (TT.sN (TT.sN (TT.sN (TT.sS (fun _ _ => rfl) TT.sJ))))))
def D_f8_16 : AU X_f8_16 R_f8 := .of tt_f8_16
theorem ok_f8_16 : AY J_f8 S_f8_16 D_f8_16 :=
 lk mxk (lbc ok_f8_25 rfl (lbc ok_f8_23 rfl (lbc ok_f8_21 rfl (lbc ok_f8_19 rfl lbn)))) sd_f8_16
def tt_f8 (x : X_f8) : TT Tryz.prog R_f8 :=
 (.need (A3 x.snd.snd.Thread x.fst.AB.n) <|
 (.need (A3 x.snd.snd.Thread x.snd.fst.AB.n) <|
 (.call con_fl ((x.fst.AB.get (Int.toNat x.snd.snd.Thread)), (x.snd.fst.AB.get (Int.toNat x.snd.snd.Thread))) fun (y1 : R_fl) =>
 (.ite (Bm x.snd.snd.Kind 4)
 (.call con_f3f (x.fst, (x.snd.fst, x.snd.snd.Ring)) fun (y2 : R_f3f) =>
 (.ite (AW x.snd.snd.Kind 1)
 (.AM S_f8_16 D_f8_16 (X_f8_16.mk x.fst x.snd.snd 0 x.snd.fst (TSt.mk (Sl.mk true 0 (fun _i3 => (TTh.mk 0 0 0 0 0 (fun _i4 => (0 : Int)) (Sl.mk true 0 (fun _i4 => (0 : Int)))))) (Sl.mk true 0 (fun _i3 => (TRs.mk 0 (Sl.mk true 0 (fun _i4 => (0 : Int))) false (Sl.mk true 0 (fun _i4 => (TSo.mk 0 0 0)))))) 0 0 false) y1.fst (TR3.mk y2.DE (IntKind.u64.wrap (y2.Ax + 1)) y2.AV y2.Ao y2.S)))
 (.ite (AW x.snd.snd.Kind 2)
 (.call con_f31 (y2, (x.snd.snd.AG, y1.snd.Value)) fun (y3 : R_f31) =>
 (.AM S_f8_16 D_f8_16 (X_f8_16.mk x.fst x.snd.snd 0 x.snd.fst (TSt.mk (Sl.mk true 0 (fun _i4 => (TTh.mk 0 0 0 0 0 (fun _i5 => (0 : Int)) (Sl.mk true 0 (fun _i5 => (0 : Int)))))) (Sl.mk true 0 (fun _i4 => (TRs.mk 0 (Sl.mk true 0 (fun _i5 => (0 : Int))) false (Sl.mk true 0 (fun _i5 => (TSo.mk 0 0 0)))))) 0 0 false) y1.fst y3.snd)))
 (.ite (AW x.snd.snd.Kind 3)
 (.call con_f2s (y2, y1.snd.Reader) fun (y3 : R_f2s) =>
 (.AM S_f8_16 D_f8_16 (X_f8_16.mk x.fst x.snd.snd 0 x.snd.fst (TSt.mk (Sl.mk true 0 (fun _i4 => (TTh.mk 0 0 0 0 0 (fun _i5 => (0 : Int)) (Sl.mk true 0 (fun _i5 => (0 : Int)))))) (Sl.mk true 0 (fun _i4 => (TRs.mk 0 (Sl.mk true 0 (fun _i5 => (0 : Int))) false (Sl.mk true 0 (fun _i5 => (TSo.mk 0 0 0)))))) 0 0 false) y1.fst y3.snd.snd)))
 (.ite (AW x.snd.snd.Kind 4)
 (.call con_f1p (y2, (y1.snd.Reader, x.snd.snd.AG)) fun (y3 : R_f1p) =>
 (.AM S_f8_16 D_f8_16 (X_f8_16.mk x.fst x.snd.snd y3.fst x.snd.fst (TSt.mk (Sl.mk true 0 (fun _i4 => (TTh.mk 0 0 0 0 0 (fun _i5 => (0 : Int)) (Sl.mk true 0 (fun _i5 => (0 : Int)))))) (Sl.mk true 0 (fun _i4 => (TRs.mk 0 (Sl.mk true 0 (fun _i5 => (0 : Int))) false (Sl.mk true 0 (fun _i5 => (TSo.mk 0 0 0)))))) 0 0 false) y1.fst y3.snd.snd)))
 (.ite (AW x.snd.snd.Kind 13)
 (.AM S_f8_16 D_f8_16 (X_f8_16.mk x.fst x.snd.snd 0 x.snd.fst (TSt.mk (Sl.mk true 0 (fun _i3 => (TTh.mk 0 0 0 0 0 (fun _i4 => (0 : Int)) (Sl.mk true 0 (fun _i4 => (0 : Int)))))) (Sl.mk true 0 (fun _i3 => (TRs.mk 0 (Sl.mk true 0 (fun _i4 => (0 : Int))) false (Sl.mk true 0 (fun _i4 => (TSo.mk 0 0 0)))))) 0 0 false) y1.fst (TR3.mk y2.DE y2.Ax y2.AV true y2.S)))
 (.AM S_f8_16 D_f8_16 (X_f8_16.mk x.fst x.snd.snd 0 x.snd.fst (TSt.mk (Sl.mk true 0 (fun _i3 => (TTh.mk 0 0 0 0 0 (fun _i4 => (0 : Int)) (Sl.mk true 0 (fun _i4 => (0 : Int)))))) (Sl.mk true 0 (fun _i3 => (TRs.mk 0 (Sl.mk true 0 (fun _i4 => (0 : Int))) false (Sl.mk true 0 (fun _i4 => (TSo.mk 0 0 0)))))) 0 0 false) y1.fst y2))))))))
 (.ite (AW x.snd.snd.Kind 13)
 (.call con_f3f (x.fst, (x.snd.fst, x.snd.snd.Ring)) fun (y2 : R_f3f) =>
 (.ite (AW x.snd.snd.Kind 1)
 (.AM S_f8_16 D_f8_16 (X_f8_16.mk x.fst x.snd.snd 0 x.snd.fst (TSt.mk (Sl.mk true 0 (fun _i3 => (TTh.mk 0 0 0 0 0 (fun _i4 => (0 : Int)) (Sl.mk true 0 (fun _i4 => (0 : Int)))))) (Sl.mk true 0 (fun _i3 => (TRs.mk 0 (Sl.mk true 0 (fun _i4 => (0 : Int))) false (Sl.mk true 0 (fun _i4 => (TSo.mk 0 0 0)))))) 0 0 false) y1.fst (TR3.mk y2.DE (IntKind.u64.wrap (y2.Ax + 1)) y2.AV y2.Ao y2.S)))
 (.ite (AW x.snd.snd.Kind 2)
 (.call con_f31 (y2, (x.snd.snd.AG, y1.snd.Value)) fun (y3 : R_f31) =>
 (.AM S_f8_16 D_f8_16 (X_f8_16.mk x.fst x.snd.snd 0 x.snd.fst (TSt.mk (Sl.mk true 0 (fun _i4 => (TTh.mk 0 0 0 0 0 (fun _i5 => (0 : Int)) (Sl.mk true 0 (fun _i5 => (0 : Int)))))) (Sl.mk true 0 (fun _i4 => (TRs.mk 0 (Sl.mk true 0 (fun _i5 => (0 : Int))) false (Sl.mk true 0 (fun _i5 => (TSo.mk 0 0 0)))))) 0 0 false) y1.fst y3.snd)))
 (.ite (AW x.snd.snd.Kind 3)
 (.call con_f2s (y2, y1.snd.Reader) fun (y3 : R_f2s) =>
 (.AM S_f8_16 D_f8_16 (X_f8_16.mk x.fst x.snd.snd 0 x.snd.fst (TSt.mk (Sl.mk true 0 (fun _i4 => (TTh.mk 0 0 0 0 0 (fun _i5 => (0 : Int)) (Sl.mk true 0 (fun _i5 => (0 : Int)))))) (Sl.mk true 0 (fun _i4 => (TRs.mk 0 (Sl.mk true 0 (fun _i5 => (0 : Int))) false (Sl.mk true 0 (fun _i5 => (TSo.mk 0 0 0)))))) 0 0 false) y1.fst y3.snd.snd)))
 (.ite (AW x.snd.snd.Kind 4)
 (.call con_f1p (y2, (y1.snd.Reader, x.snd.snd.AG)) fun (y3 : R_f1p) =>
 (.AM S_f8_16 D_f8_16 (X_f8_16.mk x.fst x.snd.snd y3.fst x.snd.fst (TSt.mk (Sl.mk true 0 (fun _i4 => (TTh.mk 0 0 0 0 0 (fun _i5 => (0 : Int)) (Sl.mk true 0 (fun _i5 => (0 : Int)))))) (Sl.mk true 0 (fun _i4 => (TRs.mk 0 (Sl.mk true 0 (fun _i5 => (0 : Int))) false (Sl.mk true 0 (fun _i5 => (TSo.mk 0 0 0)))))) 0 0 false) y1.fst y3.snd.snd)))
 (.ite (AW x.snd.snd.Kind 13)
 (.AM S_f8_16 D_f8_16 (X_f8_16.mk x.fst x.snd.snd 0 x.snd.fst (TSt.mk (Sl.mk true 0 (fun _i3 => (TTh.mk 0 0 0 0 0 (fun _i4 => (0 : Int)) (Sl.mk true 0 (fun _i4 => (0 : Int)))))) (Sl.mk true 0 (fun _i3 => (TRs.mk 0 (Sl.mk true 0 (fun _i4 => (0 : Int))) false (Sl.mk true 0 (fun _i4 => (TSo.mk 0 0 0)))))) 0 0 false) y1.fst (TR3.mk y2.DE y2.Ax y2.AV true y2.S)))
 (.AM S_f8_16 D_f8_16 (X_f8_16.mk x.fst x.snd.snd 0 x.snd.fst (TSt.mk (Sl.mk true 0 (fun _i3 => (TTh.mk 0 0 0 0 0 (fun _i4 => (0 : Int)) (Sl.mk true 0 (fun _i4 => (0 : Int)))))) (Sl.mk true 0 (fun _i3 => (TRs.mk 0 (Sl.mk true 0 (fun _i4 => (0 : Int))) false (Sl.mk true 0 (fun _i4 => (TSo.mk 0 0 0)))))) 0 0 false) y1.fst y2))))))))
 (.AM S_f8_19 D_f8_19 (X_f8_19.mk x.fst x.snd.snd 0 x.snd.fst (TSt.mk (Sl.mk true 0 (fun _i2 => (TTh.mk 0 0 0 0 0 (fun _i3 => (0 : Int)) (Sl.mk true 0 (fun _i3 => (0 : Int)))))) (Sl.mk true 0 (fun _i2 => (TRs.mk 0 (Sl.mk true 0 (fun _i3 => (0 : Int))) false (Sl.mk true 0 (fun _i3 => (TSo.mk 0 0 0)))))) 0 0 false) y1.fst)))))))
theorem sd_f8 (x : X_f8) : (tt_f8 x).AJ :=
 (TT.sN (TT.sN (TT.sC fun _ => (TT.sI (TT.sC fun _ => (TT.sI TT.sJ (TT.sI (TT.sC fun _ => TT.sJ) (TT.sI (TT.sC fun _ => TT.sJ) (TT.sI (TT.sC fun _ => TT.sJ) (TT.sI TT.sJ TT.sJ)))))) (TT.sI (TT.sC fun _ => (TT.sI TT.sJ (TT.sI (TT.sC fun _ => TT.sJ) (TT.sI (TT.sC fun _ => TT.sJ) (TT.sI (TT.sC fun _ => TT.sJ) (TT.sI TT.sJ TT.sJ)))))) TT.sJ)))))
def D_f8 : AU X_f8 R_f8 := .of tt_f8
def con_f8 : BC Tryz.prog :=
 Br 53 J_f8 S_f8 D_f8 3 0 [sh_TPg, sh_TSt, .any] (lk mxk (lbc ok_f8_25 rfl (lbc ok_f8_23 rfl (lbc ok_f8_21 rfl (lbc ok_f8_19 rfl (lbc ok_f8_16 rfl lbn))))) sd_f8)
abbrev X_f4f : Type := TPg × TSt × TEv
abbrev R_f4f : Type := Int × TSt
def J_f4f : BH Tryz.prog :=
 BN Tryz.prog Tryz.f20 27 [(3, 3), (4, 3), (5, 3)] [] [] [] [.any, sh_TSt] [] [con_f32, con_f3y, con_f8] R_f4f [] fun y => [V.CN (V.cons ((V.int .i64) y.1) (V.cons (e_TSt y.2) (V.unit)))]
def S_f4f : AO :=
 Ah Tryz.f20 3 0 X_f4f (fun x => [e_TPg x.1, e_TSt x.2.1, e_TEv x.2.2]) fun l => (d_TPg (at_ l 0), d_TSt (at_ l 1), d_TEv (at_ l 2))
def tt_f4f (x : X_f4f) : TT Tryz.prog R_f4f :=
 (.call con_f3y (x.fst, (x.snd.fst, x.snd.snd)) fun (y1 : R_f3y) =>
 (.ite (!(AW y1 0))
 (.ret (y1, x.snd.fst))
 (.call con_f32 (x.fst, (x.snd.fst, x.snd.snd)) fun (y2 : R_f32) =>
 (.ite (!y2)
 (.ret (11, x.snd.fst))
 (.call con_f8 (x.fst, (x.snd.fst, x.snd.snd)) fun (y3 : R_f8) =>
 (.ret (0, y3)))))))
theorem sd_f4f (x : X_f4f) : (tt_f4f x).AJ :=
 (TT.sC fun _ => (TT.sI TT.sR (TT.sC fun _ => (TT.sI TT.sR (TT.sC fun _ => TT.sR)))))
def D_f4f : AU X_f4f R_f4f := .of tt_f4f
def con_f4f : BC Tryz.prog :=
 Br 20 J_f4f S_f4f D_f4f 3 0 [sh_TPg, sh_TSt, .any] (lk mxk lbn sd_f4f)
abbrev X_f4 : Type := TPg × (Sl Int) × (Sl AZ)
abbrev R_f4 : Type := Bool
def J_f4 : BH Tryz.prog :=
 BN Tryz.prog Tryz.f3 109 [(3, 3), (36, 1), (45, 1), (51, 1), (63, 1), (70, 1), (97, 1), (105, 1)] [(4, [.open_ 7])] [] [] [.any] [] [con_f1, con_f19, con_f4f, con_f2l, con_fj, con_f1a, con_f3h, con_f4c, con_f2h, con_f3b] R_f4 [] fun y => [V.bool y]
def S_f4 : AO :=
 Ah Tryz.f3 3 0 X_f4 (fun x => [e_TPg x.1, BB x.2.1, BS x.2.2]) fun l => (d_TPg (at_ l 0), BV (at_ l 1), Bv (at_ l 2))
structure X_f4_3 where
 Bi : (Sl Int)
 FT : (Sl AZ)
 Fi : TPg
def S_f4_3 : AO :=
 Ad Tryz.f3 3 [(1, BJ), (2, Bj), (3, .any)] [] [] X_f4_3 (fun x => [BB x.Bi, BS x.FT, (CU e_TPg) x.Fi]) fun l => ⟨BV (at_ l 0), Bv (at_ l 1), (CV d_TPg) (at_ l 2)⟩
structure X_f4_8 where
 Bi : (Sl Int)
 Fi : TPg
 IQ : (Sl AZ)
 Kp : Int
 Hk : Int
 MO : TSt
 H4 : TFa
def S_f4_8 : AO :=
 Ad Tryz.f3 8 [(1, BJ), (3, .any), (7, .any), (9, .any), (45, Bj), (46, .any), (47, .any)] [] [(.loc 9 0, sh_TSt), (.loc 7 1, sh_TFa)] X_f4_8 (fun x => [BB x.Bi, (CU e_TPg) x.Fi, (V.ptr (.loc 7 1) []), (V.ptr (.loc 9 0) []), BS x.IQ, (V.int .i64) x.Kp, (V.int .i64) x.Hk, e_TSt x.MO, e_TFa x.H4]) fun l => ⟨BV (at_ l 0), (CV d_TPg) (at_ l 1), Bv (at_ l 4), dI (at_ l 5), dI (at_ l 6), d_TSt (at_ l 7), d_TFa (at_ l 8)⟩
structure X_f4_17 where
 Bi : (Sl Int)
 Fi : TPg
 UU : Bool
 IQ : (Sl AZ)
 Kp : Int
 Hk : Int
 MO : TSt
 C1 : TEv
 H4 : TFa
def S_f4_17 : AO :=
 Ad Tryz.f3 17 [(1, BJ), (3, .any), (7, .any), (9, .any), (16, .any), (17, .any), (45, Bj), (46, .any), (47, .any)] [] [(.loc 9 0, sh_TSt), (.loc 16 0, .any), (.loc 7 1, sh_TFa)] X_f4_17 (fun x => [BB x.Bi, (CU e_TPg) x.Fi, (V.ptr (.loc 7 1) []), (V.ptr (.loc 9 0) []), (V.ptr (.loc 16 0) []), V.bool x.UU, BS x.IQ, (V.int .i64) x.Kp, (V.int .i64) x.Hk, e_TSt x.MO, e_TEv x.C1, e_TFa x.H4]) fun l => ⟨BV (at_ l 0), (CV d_TPg) (at_ l 1), dB (at_ l 5), Bv (at_ l 6), dI (at_ l 7), dI (at_ l 8), d_TSt (at_ l 9), d_TEv (at_ l 10), d_TFa (at_ l 11)⟩
structure X_f4_19 where
 Bi : (Sl Int)
 Fi : TPg
 IQ : (Sl AZ)
 Kp : Int
 Hk : Int
 MO : TSt
 H4 : TFa
def S_f4_19 : AO :=
 Ad Tryz.f3 19 [(1, BJ), (3, .any), (7, .any), (9, .any), (45, Bj), (46, .any), (47, .any)] [] [(.loc 9 0, sh_TSt), (.loc 7 1, sh_TFa)] X_f4_19 (fun x => [BB x.Bi, (CU e_TPg) x.Fi, (V.ptr (.loc 7 1) []), (V.ptr (.loc 9 0) []), BS x.IQ, (V.int .i64) x.Kp, (V.int .i64) x.Hk, e_TSt x.MO, e_TFa x.H4]) fun l => ⟨BV (at_ l 0), (CV d_TPg) (at_ l 1), Bv (at_ l 4), dI (at_ l 5), dI (at_ l 6), d_TSt (at_ l 7), d_TFa (at_ l 8)⟩
structure X_f4_20 where
 MO : TSt
 H4 : TFa
def S_f4_20 : AO :=
 Ad Tryz.f3 20 (an [7, 9]) [] [(.loc 9 0, sh_TSt), (.loc 7 1, sh_TFa)] X_f4_20 (fun x => [(V.ptr (.loc 7 1) []), (V.ptr (.loc 9 0) []), e_TSt x.MO, e_TFa x.H4]) fun l => ⟨d_TSt (at_ l 2), d_TFa (at_ l 3)⟩
def tt_f4_20 (x : X_f4_20) : TT Tryz.prog R_f4 :=
 (.call con_f1 x.H4 fun (y1 : R_f1) =>
 (.call con_fj (y1, x.MO) fun (y2 : R_fj) =>
 (.ret y2)))
theorem sd_f4_20 (x : X_f4_20) : (tt_f4_20 x).AJ :=
 (TT.sC fun _ => (TT.sC fun _ => TT.sR))
def D_f4_20 : AU X_f4_20 R_f4 := .of tt_f4_20
theorem ok_f4_20 : AY J_f4 S_f4_20 D_f4_20 :=
 lk mxk lbn sd_f4_20
def tt_f4_19 (D_f4_8 : AU X_f4_8 R_f4) (x : X_f4_19) : TT Tryz.prog R_f4 :=
 (.AM S_f4_8 D_f4_8 (X_f4_8.mk x.Bi x.Fi x.IQ x.Kp (IntKind.i64.wrap (x.Hk + 1)) x.MO x.H4))
theorem sd_f4_19 (D_f4_8 : AU X_f4_8 R_f4) (x : X_f4_19) : (tt_f4_19 D_f4_8 x).AJ :=
 TT.sJ
def D_f4_19 (D_f4_8 : AU X_f4_8 R_f4) : AU X_f4_19 R_f4 := .of (tt_f4_19 D_f4_8)
theorem ok_f4_19 (D_f4_8 : AU X_f4_8 R_f4) (h_8 : AY J_f4 S_f4_8 D_f4_8) : AY J_f4 S_f4_19 (D_f4_19 D_f4_8) :=
 lk mxk (lbc h_8 rfl (lbc ok_f4_20 rfl lbn)) (sd_f4_19 D_f4_8)
def tt_f4_17 (D_f4_8 : AU X_f4_8 R_f4) (x : X_f4_17) : TT Tryz.prog R_f4 :=
 (.ite x.UU
 (.call con_f4f (x.Fi, (x.MO, x.C1)) fun (y2 : R_f4f) =>
 (.AM S_f4_19 (D_f4_19 D_f4_8) (X_f4_19.mk x.Bi x.Fi x.IQ x.Kp x.Hk y2.snd x.H4)))
 (.AM S_f4_19 (D_f4_19 D_f4_8) (X_f4_19.mk x.Bi x.Fi x.IQ x.Kp x.Hk x.MO x.H4)))
theorem sd_f4_17 (D_f4_8 : AU X_f4_8 R_f4) (x : X_f4_17) : (tt_f4_17 D_f4_8 x).AJ :=
 (TT.sI (TT.sC fun _ => TT.sJ) TT.sJ)
def D_f4_17 (D_f4_8 : AU X_f4_8 R_f4) : AU X_f4_17 R_f4 := .of (tt_f4_17 D_f4_8)
theorem ok_f4_17 (D_f4_8 : AU X_f4_8 R_f4) (h_8 : AY J_f4 S_f4_8 D_f4_8) : AY J_f4 S_f4_17 (D_f4_17 D_f4_8) :=
 lk mxk (lbc h_8 rfl (lbc ok_f4_20 rfl (lbc (ok_f4_19 D_f4_8 h_8) rfl lbn))) (sd_f4_17 D_f4_8)
def tt_f4_8 (D_f4_8 : AU X_f4_8 R_f4) (x : X_f4_8) : TT Tryz.prog R_f4 :=
 (.ite (Bg x.Hk x.Kp)
 (.need (A3 x.Hk x.IQ.n) <|
 (.call con_f2h (x.Bi, ((x.IQ.get (Int.toNat x.Hk)), x.H4)) fun (y2 : R_f2h) =>
 (.call con_f1 x.H4 fun (y3 : R_f1) =>
 (.call con_fj (y3, x.MO) fun (y4 : R_fj) =>
 (.ite (!y4)
 (.ret false)
 (.call con_f3b (x.Bi, ((x.IQ.get (Int.toNat x.Hk)), x.H4)) fun (y5 : R_f3b) =>
 (.call con_f1a (x.Fi, (x.MO, (x.Bi, (x.IQ.get (Int.toNat x.Hk))))) fun (y6 : R_f1a) =>
 (.ite (!((AW y2.fst.Thread y6.fst.Thread) && ((AW y2.fst.Kind y6.fst.Kind) && ((AW y2.fst.Ring y6.fst.Ring) && ((AW y2.fst.AG y6.fst.AG) && ((AW y2.fst.Value y6.fst.Value) && true))))))
 (.ret false)
 (.ite (!(y2.snd == y6.snd))
 (.ret false)
 (.ite (!((AW y5.fst.Thread y6.fst.Thread) && ((AW y5.fst.Kind y6.fst.Kind) && ((AW y5.fst.Ring y6.fst.Ring) && ((AW y5.fst.AG y6.fst.AG) && ((AW y5.fst.Value y6.fst.Value) && true))))))
 (.ret false)
 (.ite (!(y5.snd.fst == y6.snd))
 (.ret false)
 (.AM S_f4_17 (D_f4_17 D_f4_8) (X_f4_17.mk x.Bi x.Fi y6.snd x.IQ x.Kp x.Hk x.MO y6.fst y5.snd.snd)))))))))))))
 (.AM S_f4_20 D_f4_20 (X_f4_20.mk x.MO x.H4)))
theorem sd_f4_8 (D_f4_8 : AU X_f4_8 R_f4) (x : X_f4_8) : (tt_f4_8 D_f4_8 x).AJ :=
 (TT.sI (TT.sN (TT.sC fun _ => (TT.sC fun _ => (TT.sC fun _ => (TT.sI TT.sR (TT.sC fun _ => (TT.sC fun _ => (TT.sI TT.sR (TT.sI TT.sR (TT.sI TT.sR (TT.sI TT.sR TT.sJ))))))))))) TT.sJ)
def D_f4_8 : AU X_f4_8 R_f4 := AU.loop tt_f4_8
theorem ok_f4_8 : AY J_f4 S_f4_8 D_f4_8 :=
 A5 fun D_f4_8 h_8 => lk mxk (lbc h_8 rfl (lbc ok_f4_20 rfl (lbc (ok_f4_19 D_f4_8 h_8) rfl (lbc (ok_f4_17 D_f4_8 h_8) rfl lbn)))) (sd_f4_8 D_f4_8)
def tt_f4_3 (x : X_f4_3) : TT Tryz.prog R_f4 :=
 (.call con_f19 x.Fi fun (y1 : R_f19) =>
 (.need (!y1.fst.nil) <|
 (.call con_f2l x.Fi fun (y2 : R_f2l) =>
 (.AM S_f4_8 D_f4_8 (X_f4_8.mk x.Bi x.Fi x.FT ((x.FT.n : Nat) : Int) 0 y2 y1.fst.x)))))
theorem sd_f4_3 (x : X_f4_3) : (tt_f4_3 x).AJ :=
 (TT.sC fun _ => (TT.sN (TT.sC fun _ => TT.sJ)))
def D_f4_3 : AU X_f4_3 R_f4 := .of tt_f4_3
theorem ok_f4_3 : AY J_f4 S_f4_3 D_f4_3 :=
 lk mxk (lbc ok_f4_20 rfl (lbc ok_f4_8 rfl lbn)) sd_f4_3
def tt_f4 (x : X_f4) : TT Tryz.prog R_f4 :=
 (.call con_f3h PUnit.unit fun (y1 : R_f3h) =>
 (.ite (!y1)
 (.call con_f3h PUnit.unit fun (y2 : R_f3h) =>
 (.ret y2))
 (.call con_f4c x.fst fun (y2 : R_f4c) =>
 (.ite (!y2)
 (.call con_f3h PUnit.unit fun (y3 : R_f3h) =>
 (.ret y3))
 (.ite (Bg 100 ((x.snd.fst.n : Nat) : Int))
 (.call con_f3h PUnit.unit fun (y3 : R_f3h) =>
 (.ret y3))
 (.ite (Bg 100 ((x.snd.snd.n : Nat) : Int))
 (.call con_f3h PUnit.unit fun (y3 : R_f3h) =>
 (.ret y3))
 (.AM S_f4_3 D_f4_3 (X_f4_3.mk x.snd.fst x.snd.snd x.fst))))))))
theorem sd_f4 (x : X_f4) : (tt_f4 x).AJ :=
 (TT.sC fun _ => (TT.sI (TT.sC fun _ => TT.sR) (TT.sC fun _ => (TT.sI (TT.sC fun _ => TT.sR) (TT.sI (TT.sC fun _ => TT.sR) (TT.sI (TT.sC fun _ => TT.sR) TT.sJ))))))
def D_f4 : AU X_f4 R_f4 := .of tt_f4
def con_f4 : BC Tryz.prog :=
 Br 3 J_f4 S_f4 D_f4 3 0 [sh_TPg, BJ, Bj] (lk mxk (lbc ok_f4_20 rfl (lbc ok_f4_8 rfl (lbc ok_f4_3 rfl lbn))) sd_f4)
end Go.Proofs.YtiamaibincaihaaGreat
end
