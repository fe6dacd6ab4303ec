/- What functions of the program come to, part C: no statement is proved here. -/
import Derived.Test.YtiamaibincaihaaGreatGB
noncomputable section
namespace Go.Proofs.YtiamaibincaihaaGreat
open Go Go.Vm Go.Proofs
set_option maxRecDepth 100000
set_option maxHeartbeats 4000000
abbrev X_fj : Type := TIn
abbrev R_fj : Type := Bool
def J_fj : BT Tryz.prog :=
 Bg Tryz.prog Tryz.f147 49 [(1, 3)] [] [] [] [.any] [] [con_f3d, con_f39] R_fj [] fun y => [V.bool y]
def S_fj : AR :=
 Aq Tryz.f147 1 0 X_fj (fun x => [e_TIn x]) fun l => (d_TIn (at_ l 0))
structure X_fj_4 where
 Fm : TIn
 TD : ByteArray
def S_fj_4 : AR :=
 Ai Tryz.f147 4 (an [1, 3]) [] [] X_fj_4 (fun x => [(DO e_TIn) x.Fm, V.str x.TD]) fun l => ⟨(DP d_TIn) (at_ l 0), dS (at_ l 1)⟩
structure X_fj_6 where
 TD : ByteArray
 Tp : (Sl Int)
 Re : Int
def S_fj_6 : AR :=
 Ai Tryz.f147 6 [(3, .any), (4, P3), (5, .any)] [] [] X_fj_6 (fun x => [V.str x.TD, P8 x.Tp, (V.int .i64) x.Re]) fun l => ⟨dS (at_ l 0), P9 (at_ l 1), dI (at_ l 2)⟩
structure X_fj_7 where
 TD : ByteArray
 Tp : (Sl Int)
 Re : Int
def S_fj_7 : AR :=
 Ai Tryz.f147 7 [(3, .any), (4, P3), (5, .any)] [] [] X_fj_7 (fun x => [V.str x.TD, P8 x.Tp, (V.int .i64) x.Re]) fun l => ⟨dS (at_ l 0), P9 (at_ l 1), dI (at_ l 2)⟩
def tt_fj_7 (D_fj_6 : AS X_fj_6 R_fj) (x : X_fj_7) : TT Tryz.prog R_fj :=
 (.Ab S_fj_6 D_fj_6 (X_fj_6.mk x.TD x.Tp (IntKind.i64.wrap (x.Re + 1))))
theorem sd_fj_7 (D_fj_6 : AS X_fj_6 R_fj) (x : X_fj_7) : (tt_fj_7 D_fj_6 x).AJ :=
 TT.sJ
def D_fj_7 (D_fj_6 : AS X_fj_6 R_fj) : AS X_fj_7 R_fj := .of (tt_fj_7 D_fj_6)
theorem ok_fj_7 (D_fj_6 : AS X_fj_6 R_fj) (h_6 : AX J_fj S_fj_6 D_fj_6) : AX J_fj S_fj_7 (D_fj_7 D_fj_6) :=
 lk mxk (lbc h_6 rfl lbn) (sd_fj_7 D_fj_6)
def tt_fj_6 (D_fj_6 : AS X_fj_6 R_fj) (x : X_fj_6) : TT Tryz.prog R_fj :=
 (.ite (B8 x.Re 4)
 (.need (BQ x.Re x.Tp.n) <|
 (.ite (B8 (x.Tp.get (Int.toNat x.Re)) 0)
 (.ret false)
 (.need (BQ x.Re x.Tp.n) <|
 (.need (BQ x.Re (ByteArray.size x.TD)) <|
 (.call con_f39 (bt x.TD (Int.toNat x.Re)) fun (y2 : R_f39) =>
 (.ite (B8 y2 (IntKind.u64.wrap (x.Tp.get (Int.toNat x.Re))))
 (.ret false)
 (.Ab S_fj_7 (D_fj_7 D_fj_6) (X_fj_7.mk x.TD x.Tp x.Re))))))))
 (.ret true))
theorem sd_fj_6 (D_fj_6 : AS X_fj_6 R_fj) (x : X_fj_6) : (tt_fj_6 D_fj_6 x).AJ :=
 (TT.sI (TT.sN (TT.sI TT.sR (TT.sN (TT.sN (TT.sC fun _ => (TT.sI TT.sR TT.sJ)))))) TT.sR)
def D_fj_6 : AS X_fj_6 R_fj := AS.loop tt_fj_6
theorem ok_fj_6 : AX J_fj S_fj_6 D_fj_6 :=
 BG fun D_fj_6 h_6 => lk mxk (lbc h_6 rfl (lbc (ok_fj_7 D_fj_6 h_6) rfl lbn)) (sd_fj_6 D_fj_6)
def tt_fj_4 (x : X_fj_4) : TT Tryz.prog R_fj :=
 (.Ab S_fj_6 D_fj_6 (X_fj_6.mk x.TD (Sl.mk false 4 (fun i1 => (cond (Nat.beq i1 0) x.Fm.A (cond (Nat.beq i1 1) x.Fm.B (cond (Nat.beq i1 2) x.Fm.C x.Fm.D))))) 0))
theorem sd_fj_4 (x : X_fj_4) : (tt_fj_4 x).AJ :=
 TT.sJ
def D_fj_4 : AS X_fj_4 R_fj := .of tt_fj_4
theorem ok_fj_4 : AX J_fj S_fj_4 D_fj_4 :=
 lk mxk (lbc ok_fj_6 rfl lbn) sd_fj_4
def tt_fj (x : X_fj) : TT Tryz.prog R_fj :=
 (.call con_f3d x.Op fun (y1 : R_f3d) =>
 (.ite (seq y1 (ByteArray.mk #[]))
 (.ret false)
 (.need (BQ 4 (ByteArray.size y1)) <|
 (.call con_f39 (bt y1 (Int.toNat 4)) fun (y2 : R_f39) =>
 (.ite (B8 y2 x.K)
 (.ret false)
 (.Ab S_fj_4 D_fj_4 (X_fj_4.mk x y1)))))))
theorem sd_fj (x : X_fj) : (tt_fj x).AJ :=
 (TT.sC fun _ => (TT.sI TT.sR (TT.sN (TT.sC fun _ => (TT.sI TT.sR TT.sJ)))))
def D_fj : AS X_fj R_fj := .of tt_fj
def con_fj : BN Tryz.prog :=
 CY 147 J_fj S_fj D_fj 1 0 [.any] (lk mxk (lbc ok_fj_6 rfl (lbc ok_fj_4 rfl lbn)) sd_fj)
abbrev X_f1w : Type := TPg × TIn × Int
abbrev R_f1w : Type := Int
def J_f1w : BT Tryz.prog :=
 Bg Tryz.prog Tryz.f148 56 [(3, 3), (4, 3)] [] [] [] [.any] [] [] R_f1w [] fun y => [(V.int .i64) y]
def S_f1w : AR :=
 Aq Tryz.f148 3 0 X_f1w (fun x => [e_TPg x.1, e_TIn x.2.1, (V.int .i64) x.2.2]) fun l => (d_TPg (at_ l 0), d_TIn (at_ l 1), dI (at_ l 2))
structure X_f1w_3 where
 Qh : TPg
 Jt : TIn
def S_f1w_3 : AR :=
 Ai Tryz.f148 3 (an [3, 4]) [] [] X_f1w_3 (fun x => [(DO e_TPg) x.Qh, (DO e_TIn) x.Jt]) fun l => ⟨(DP d_TPg) (at_ l 0), (DP d_TIn) (at_ l 1)⟩
def tt_f1w_3 (x : X_f1w_3) : TT Tryz.prog R_f1w :=
 (.ite (B6 18 x.Jt.Op)
 (.ite (B6 x.Jt.Op 20)
 (.ite (B6 ((x.Qh.AF.n : Nat) : Int) x.Jt.C)
 (.ret 7)
 (.ite (Ae x.Jt.Op 19)
 (.need (BQ x.Jt.C x.Qh.AF.n) <|
 (.ite (B6 (IntKind.u64.wrap (x.Qh.AF.get (Int.toNat x.Jt.C)).Aa) x.Jt.K)
 (.ret 7)
 (.ret 0)))
 (.ret 0)))
 (.ite (Ae x.Jt.Op 19)
 (.need (BQ x.Jt.C x.Qh.AF.n) <|
 (.ite (B6 (IntKind.u64.wrap (x.Qh.AF.get (Int.toNat x.Jt.C)).Aa) x.Jt.K)
 (.ret 7)
 (.ret 0)))
 (.ret 0)))
 (.ite (Ae x.Jt.Op 19)
 (.need (BQ x.Jt.C x.Qh.AF.n) <|
 (.ite (B6 (IntKind.u64.wrap (x.Qh.AF.get (Int.toNat x.Jt.C)).Aa) x.Jt.K)
 (.ret 7)
 (.ret 0)))
 (.ret 0)))
theorem sd_f1w_3 (x : X_f1w_3) : (tt_f1w_3 x).AJ :=
 (TT.sI (TT.sI (TT.sI TT.sR (TT.sI (TT.sN (TT.sI TT.sR TT.sR)) TT.sR)) (TT.sI (TT.sN (TT.sI TT.sR TT.sR)) TT.sR)) (TT.sI (TT.sN (TT.sI TT.sR TT.sR)) TT.sR))
def D_f1w_3 : AS X_f1w_3 R_f1w := .of tt_f1w_3
theorem ok_f1w_3 : AX J_f1w S_f1w_3 D_f1w_3 :=
 lk mxk lbn sd_f1w_3
def tt_f1w (x : X_f1w) : TT Tryz.prog R_f1w :=
 (.ite (B6 15 x.snd.fst.Op)
 (.ite (B6 x.snd.fst.Op 17)
 (.ite (B8 (IntKind.u64.wrap x.snd.snd) x.snd.fst.K)
 (.ret 5)
 (.Ab S_f1w_3 D_f1w_3 (X_f1w_3.mk x.fst x.snd.fst)))
 (.Ab S_f1w_3 D_f1w_3 (X_f1w_3.mk x.fst x.snd.fst)))
 (.Ab S_f1w_3 D_f1w_3 (X_f1w_3.mk x.fst x.snd.fst)))
theorem sd_f1w (x : X_f1w) : (tt_f1w x).AJ :=
 (TT.sI (TT.sI (TT.sI TT.sR TT.sJ) TT.sJ) TT.sJ)
def D_f1w : AS X_f1w R_f1w := .of tt_f1w
def con_f1w : BN Tryz.prog :=
 CY 148 J_f1w S_f1w D_f1w 3 0 [sh_TPg, .any, .any] (lk mxk (lbc ok_f1w_3 rfl lbn) sd_f1w)
abbrev X_f2 : Type := TPg
abbrev R_f2 : Type := Int × Int × Int
def J_f2 : BT Tryz.prog :=
 Bg Tryz.prog Tryz.f97 81 [(1, 3)] [] [] [] [.any, .any, .any] [] [con_fj, con_f1w, con_f3c] R_f2 [] fun y => [V.CR (V.cons ((V.int .i64) y.1) (V.cons ((V.int .i64) y.2.1) (V.cons ((V.int .i64) y.2.2) (V.unit))))]
def S_f2 : AR :=
 Aq Tryz.f97 1 0 X_f2 (fun x => [e_TPg x]) fun l => (d_TPg (at_ l 0))
structure X_f2_3 where
 D3 : TPg
def S_f2_3 : AR :=
 Ai Tryz.f97 3 [(1, .any)] [] [] X_f2_3 (fun x => [(DO e_TPg) x.D3]) fun l => ⟨(DP d_TPg) (at_ l 0)⟩
structure X_f2_4 where
 D3 : TPg
 EF : Int
def S_f2_4 : AR :=
 Ai Tryz.f97 4 (an [1, 5]) [] [] X_f2_4 (fun x => [(DO e_TPg) x.D3, (V.int .i64) x.EF]) fun l => ⟨(DP d_TPg) (at_ l 0), dI (at_ l 1)⟩
structure X_f2_8 where
 D3 : TPg
def S_f2_8 : AR :=
 Ai Tryz.f97 8 [(1, .any)] [] [] X_f2_8 (fun x => [(DO e_TPg) x.D3]) fun l => ⟨(DP d_TPg) (at_ l 0)⟩
structure X_f2_9 where
 D3 : TPg
 LA : Int
def S_f2_9 : AR :=
 Ai Tryz.f97 9 (an [1, 6]) [] [] X_f2_9 (fun x => [(DO e_TPg) x.D3, (V.int .i64) x.LA]) fun l => ⟨(DP d_TPg) (at_ l 0), dI (at_ l 1)⟩
structure X_f2_10 where
 D3 : TPg
 LA : Int
def S_f2_10 : AR :=
 Ai Tryz.f97 10 (an [1, 6]) [] [] X_f2_10 (fun x => [(DO e_TPg) x.D3, (V.int .i64) x.LA]) fun l => ⟨(DP d_TPg) (at_ l 0), dI (at_ l 1)⟩
structure X_f2_15 where
 D3 : TPg
 LA : Int
 PF : (Sl TIn)
 PH : Int
def S_f2_15 : AR :=
 Ai Tryz.f97 15 [(1, .any), (6, .any), (7, hsl_TIn), (8, .any)] [] [] X_f2_15 (fun x => [(DO e_TPg) x.D3, (V.int .i64) x.LA, esl_TIn x.PF, (V.int .i64) x.PH]) fun l => ⟨(DP d_TPg) (at_ l 0), dI (at_ l 1), dsl_TIn (at_ l 2), dI (at_ l 3)⟩
structure X_f2_16 where
 D3 : TPg
 LA : Int
 PF : (Sl TIn)
 PH : Int
def S_f2_16 : AR :=
 Ai Tryz.f97 16 [(1, .any), (6, .any), (7, hsl_TIn), (8, .any)] [] [] X_f2_16 (fun x => [(DO e_TPg) x.D3, (V.int .i64) x.LA, esl_TIn x.PF, (V.int .i64) x.PH]) fun l => ⟨(DP d_TPg) (at_ l 0), dI (at_ l 1), dsl_TIn (at_ l 2), dI (at_ l 3)⟩
structure X_f2_20 where
 D3 : TPg
 LA : Int
 PF : (Sl TIn)
 PH : Int
 e_9 : Int
def S_f2_20 : AR :=
 Ai Tryz.f97 20 [(1, .any), (6, .any), (7, hsl_TIn), (8, .any), (9, .any)] [] [] X_f2_20 (fun x => [(DO e_TPg) x.D3, (V.int .i64) x.LA, esl_TIn x.PF, (V.int .i64) x.PH, (V.int .i64) x.e_9]) fun l => ⟨(DP d_TPg) (at_ l 0), dI (at_ l 1), dsl_TIn (at_ l 2), dI (at_ l 3), dI (at_ l 4)⟩
def tt_f2_10 (D_f2_9 : AS X_f2_9 R_f2) (x : X_f2_10) : TT Tryz.prog R_f2 :=
 (.Ab S_f2_9 D_f2_9 (X_f2_9.mk x.D3 (IntKind.i64.wrap (x.LA + 1))))
theorem sd_f2_10 (D_f2_9 : AS X_f2_9 R_f2) (x : X_f2_10) : (tt_f2_10 D_f2_9 x).AJ :=
 TT.sJ
def D_f2_10 (D_f2_9 : AS X_f2_9 R_f2) : AS X_f2_10 R_f2 := .of (tt_f2_10 D_f2_9)
theorem ok_f2_10 (D_f2_9 : AS X_f2_9 R_f2) (h_9 : AX J_f2 S_f2_9 D_f2_9) : AX J_f2 S_f2_10 (D_f2_10 D_f2_9) :=
 lk mxk (lbc h_9 rfl lbn) (sd_f2_10 D_f2_9)
def tt_f2_16 (_D_f2_9 : AS X_f2_9 R_f2) (D_f2_15 : AS X_f2_15 R_f2) (x : X_f2_16) : TT Tryz.prog R_f2 :=
 (.Ab S_f2_15 D_f2_15 (X_f2_15.mk x.D3 x.LA x.PF (IntKind.i64.wrap (x.PH + 1))))
theorem sd_f2_16 (D_f2_9 : AS X_f2_9 R_f2) (D_f2_15 : AS X_f2_15 R_f2) (x : X_f2_16) : (tt_f2_16 D_f2_9 D_f2_15 x).AJ :=
 TT.sJ
def D_f2_16 (D_f2_9 : AS X_f2_9 R_f2) (D_f2_15 : AS X_f2_15 R_f2) : AS X_f2_16 R_f2 := .of (tt_f2_16 D_f2_9 D_f2_15)
theorem ok_f2_16 (D_f2_9 : AS X_f2_9 R_f2) (D_f2_15 : AS X_f2_15 R_f2) (h_9 : AX J_f2 S_f2_9 D_f2_9) (h_15 : AX J_f2 S_f2_15 D_f2_15) : AX J_f2 S_f2_16 (D_f2_16 D_f2_9 D_f2_15) :=
 lk mxk (lbc h_9 rfl (lbc h_15 rfl (lbc (ok_f2_10 D_f2_9 h_9) rfl lbn))) (sd_f2_16 D_f2_9 D_f2_15)
def tt_f2_20 (D_f2_9 : AS X_f2_9 R_f2) (D_f2_15 : AS X_f2_15 R_f2) (x : X_f2_20) : TT Tryz.prog R_f2 :=
 (.ite (!(Ae x.e_9 0))
 (.ret (x.LA, (x.PH, x.e_9)))
 (.Ab S_f2_16 (D_f2_16 D_f2_9 D_f2_15) (X_f2_16.mk x.D3 x.LA x.PF x.PH)))
theorem sd_f2_20 (D_f2_9 : AS X_f2_9 R_f2) (D_f2_15 : AS X_f2_15 R_f2) (x : X_f2_20) : (tt_f2_20 D_f2_9 D_f2_15 x).AJ :=
 (TT.sI TT.sR TT.sJ)
def D_f2_20 (D_f2_9 : AS X_f2_9 R_f2) (D_f2_15 : AS X_f2_15 R_f2) : AS X_f2_20 R_f2 := .of (tt_f2_20 D_f2_9 D_f2_15)
theorem ok_f2_20 (D_f2_9 : AS X_f2_9 R_f2) (D_f2_15 : AS X_f2_15 R_f2) (h_9 : AX J_f2 S_f2_9 D_f2_9) (h_15 : AX J_f2 S_f2_15 D_f2_15) : AX J_f2 S_f2_20 (D_f2_20 D_f2_9 D_f2_15) :=
 lk mxk (lbc h_9 rfl (lbc h_15 rfl (lbc (ok_f2_10 D_f2_9 h_9) rfl (lbc (ok_f2_16 D_f2_9 D_f2_15 h_9 h_15) rfl lbn)))) (sd_f2_20 D_f2_9 D_f2_15)
def tt_f2_15 (D_f2_9 : AS X_f2_9 R_f2) (D_f2_15 : AS X_f2_15 R_f2) (x : X_f2_15) : TT Tryz.prog R_f2 :=
 (.ite (B8 x.PH ((x.PF.n : Nat) : Int))
 (.need (BQ x.PH x.PF.n) <|
 (.call con_fj (x.PF.get (Int.toNat x.PH)) fun (y3 : R_fj) =>
 (.ite y3
 (.need (BQ x.PH x.PF.n) <|
 (.call con_f1w (x.D3, ((x.PF.get (Int.toNat x.PH)), ((x.PF.n : Nat) : Int))) fun (y4 : R_f1w) =>
 (.Ab S_f2_20 (D_f2_20 D_f2_9 D_f2_15) (X_f2_20.mk x.D3 x.LA x.PF x.PH y4))))
 (.Ab S_f2_20 (D_f2_20 D_f2_9 D_f2_15) (X_f2_20.mk x.D3 x.LA x.PF x.PH 6)))))
 (.Ab S_f2_10 (D_f2_10 D_f2_9) (X_f2_10.mk x.D3 x.LA)))
theorem sd_f2_15 (D_f2_9 : AS X_f2_9 R_f2) (D_f2_15 : AS X_f2_15 R_f2) (x : X_f2_15) : (tt_f2_15 D_f2_9 D_f2_15 x).AJ :=
 (TT.sI (TT.sN (TT.sC fun _ => (TT.sI (TT.sN (TT.sC fun _ => TT.sJ)) TT.sJ))) TT.sJ)
def D_f2_15 (D_f2_9 : AS X_f2_9 R_f2) : AS X_f2_15 R_f2 := AS.loop (tt_f2_15 D_f2_9)
theorem ok_f2_15 (D_f2_9 : AS X_f2_9 R_f2) (h_9 : AX J_f2 S_f2_9 D_f2_9) : AX J_f2 S_f2_15 (D_f2_15 D_f2_9) :=
 BG fun D_f2_15 h_15 => lk mxk (lbc h_9 rfl (lbc h_15 rfl (lbc (ok_f2_10 D_f2_9 h_9) rfl (lbc (ok_f2_16 D_f2_9 D_f2_15 h_9 h_15) rfl (lbc (ok_f2_20 D_f2_9 D_f2_15 h_9 h_15) rfl lbn))))) (sd_f2_15 D_f2_9 D_f2_15)
def tt_f2_9 (D_f2_9 : AS X_f2_9 R_f2) (x : X_f2_9) : TT Tryz.prog R_f2 :=
 (.ite (B8 x.LA ((x.D3.AB.n : Nat) : Int))
 (.need (BQ x.LA x.D3.AB.n) <|
 (.ite (B8 256 (((x.D3.AB.get (Int.toNat x.LA)).n : Nat) : Int))
 (.ret (x.LA, (256, 4)))
 (.Ab S_f2_15 (D_f2_15 D_f2_9) (X_f2_15.mk x.D3 x.LA (x.D3.AB.get (Int.toNat x.LA)) 0))))
 (.ret (0, (0, 0))))
theorem sd_f2_9 (D_f2_9 : AS X_f2_9 R_f2) (x : X_f2_9) : (tt_f2_9 D_f2_9 x).AJ :=
 (TT.sI (TT.sN (TT.sI TT.sR TT.sJ)) TT.sR)
def D_f2_9 : AS X_f2_9 R_f2 := AS.loop tt_f2_9
theorem ok_f2_9 : AX J_f2 S_f2_9 D_f2_9 :=
 BG fun D_f2_9 h_9 => lk mxk (lbc h_9 rfl (lbc (ok_f2_10 D_f2_9 h_9) rfl (lbc (ok_f2_15 D_f2_9 h_9) rfl lbn))) (sd_f2_9 D_f2_9)
def tt_f2_8 (x : X_f2_8) : TT Tryz.prog R_f2 :=
 (.Ab S_f2_9 D_f2_9 (X_f2_9.mk x.D3 0))
theorem sd_f2_8 (x : X_f2_8) : (tt_f2_8 x).AJ :=
 TT.sJ
def D_f2_8 : AS X_f2_8 R_f2 := .of tt_f2_8
theorem ok_f2_8 : AX J_f2 S_f2_8 D_f2_8 :=
 lk mxk (lbc ok_f2_9 rfl lbn) sd_f2_8
def tt_f2_4 (D_f2_4 : AS X_f2_4 R_f2) (x : X_f2_4) : TT Tryz.prog R_f2 :=
 (.ite (B8 x.EF ((x.D3.AF.n : Nat) : Int))
 (.need (BQ x.EF x.D3.AF.n) <|
 (.call con_f3c (x.D3.AF.get (Int.toNat x.EF)) fun (y2 : R_f3c) =>
 (.ite (!y2)
 (.ret ((-(1 : Int)), (x.EF, 7)))
 (.Ab S_f2_4 D_f2_4 (X_f2_4.mk x.D3 (IntKind.i64.wrap (x.EF + 1)))))))
 (.Ab S_f2_8 D_f2_8 (X_f2_8.mk x.D3)))
theorem sd_f2_4 (D_f2_4 : AS X_f2_4 R_f2) (x : X_f2_4) : (tt_f2_4 D_f2_4 x).AJ :=
 (TT.sI (TT.sN (TT.sC fun _ => (TT.sI TT.sR TT.sJ))) TT.sJ)
def D_f2_4 : AS X_f2_4 R_f2 := AS.loop tt_f2_4
theorem ok_f2_4 : AX J_f2 S_f2_4 D_f2_4 :=
 BG fun D_f2_4 h_4 => lk mxk (lbc h_4 rfl (lbc ok_f2_9 rfl (lbc ok_f2_8 rfl lbn))) (sd_f2_4 D_f2_4)
def tt_f2_3 (x : X_f2_3) : TT Tryz.prog R_f2 :=
 (.Ab S_f2_4 D_f2_4 (X_f2_4.mk x.D3 0))
theorem sd_f2_3 (x : X_f2_3) : (tt_f2_3 x).AJ :=
 TT.sJ
def D_f2_3 : AS X_f2_3 R_f2 := .of tt_f2_3
theorem ok_f2_3 : AX J_f2 S_f2_3 D_f2_3 :=
 lk mxk (lbc ok_f2_9 rfl (lbc ok_f2_8 rfl (lbc ok_f2_4 rfl lbn))) sd_f2_3
def tt_f2 (x : X_f2) : TT Tryz.prog R_f2 :=
 (.ite (Ae ((x.AB.n : Nat) : Int) 0)
 (.ret (0, (0, 1)))
 (.ite (B8 8 ((x.AB.n : Nat) : Int))
 (.ret (0, (0, 1)))
 (.ite (B8 8 ((x.AF.n : Nat) : Int))
 (.ret (0, (0, 1)))
 (.Ab S_f2_3 D_f2_3 (X_f2_3.mk x)))))
theorem sd_f2 (x : X_f2) : (tt_f2 x).AJ :=
 (TT.sI TT.sR (TT.sI TT.sR (TT.sI TT.sR TT.sJ)))
def D_f2 : AS X_f2 R_f2 := .of tt_f2
def con_f2 : BN Tryz.prog :=
 CY 97 J_f2 S_f2 D_f2 1 0 [sh_TPg] (lk mxk (lbc ok_f2_9 rfl (lbc ok_f2_8 rfl (lbc ok_f2_4 rfl (lbc ok_f2_3 rfl lbn)))) sd_f2)
abbrev X_f37 : Type := TPg
abbrev R_f37 : Type := Bool
def J_f37 : BT Tryz.prog :=
 Bg Tryz.prog Tryz.f55 14 [(1, 3), (6, 1)] [] [] [] [.any] [] [con_f2] R_f37 [] fun y => [V.bool y]
def S_f37 : AR :=
 Aq Tryz.f55 1 0 X_f37 (fun x => [e_TPg x]) fun l => (d_TPg (at_ l 0))
def tt_f37 (x : X_f37) : TT Tryz.prog R_f37 :=
 (.call con_f2 x fun (y1 : R_f2) =>
 (.ret (Ae y1.snd.snd 0)))
theorem sd_f37 (x : X_f37) : (tt_f37 x).AJ :=
 (TT.sC fun _ => TT.sR)
def D_f37 : AS X_f37 R_f37 := .of tt_f37
def con_f37 : BN Tryz.prog :=
 CY 55 J_f37 S_f37 D_f37 1 0 [sh_TPg] (lk mxk lbn sd_f37)
abbrev X_f38 : Type := TPg
abbrev R_f38 : Type := Bool
def J_f38 : BT Tryz.prog :=
 Bg Tryz.prog Tryz.f24 5 [(1, 3)] [] [] [] [.any] [] [con_f37] R_f38 [] fun y => [V.bool y]
def S_f38 : AR :=
 Aq Tryz.f24 1 0 X_f38 (fun x => [e_TPg x]) fun l => (d_TPg (at_ l 0))
def tt_f38 (x : X_f38) : TT Tryz.prog R_f38 :=
 (.call con_f37 x fun (y1 : R_f37) =>
 (.ret y1))
theorem sd_f38 (x : X_f38) : (tt_f38 x).AJ :=
 (TT.sC fun _ => TT.sR)
def D_f38 : AS X_f38 R_f38 := .of tt_f38
def con_f38 : BN Tryz.prog :=
 CY 24 J_f38 S_f38 D_f38 1 0 [sh_TPg] (lk mxk lbn sd_f38)
abbrev X_f3g : Type := TPg
abbrev R_f3g : Type := Bool
def J_f3g : BT Tryz.prog :=
 Bg Tryz.prog Tryz.f12 9 [(1, 3)] [] [] [] [.any] [] [con_f1i, con_f38] R_f3g [] fun y => [V.bool y]
def S_f3g : AR :=
 Aq Tryz.f12 1 0 X_f3g (fun x => [e_TPg x]) fun l => (d_TPg (at_ l 0))
def tt_f3g (x : X_f3g) : TT Tryz.prog R_f3g :=
 (.call con_f1i (x, 100) fun (y1 : R_f1i) =>
 (.ite y1
 (.call con_f38 x fun (y2 : R_f38) =>
 (.ret y2))
 (.ret false)))
theorem sd_f3g (x : X_f3g) : (tt_f3g x).AJ :=
 (TT.sC fun _ => (TT.sI (TT.sC fun _ => TT.sR) TT.sR))
def D_f3g : AS X_f3g R_f3g := .of tt_f3g
def con_f3g : BN Tryz.prog :=
 CY 12 J_f3g S_f3g D_f3g 1 0 [sh_TPg] (lk mxk lbn sd_f3g)
abbrev X_fy : Type := Int × TFa
abbrev R_fy : Type := Bool
abbrev RR_fy : Type := Bool × TFa
abbrev p_fy (y : RR_fy) : TFa := y.2
abbrev w_fy (x : X_fy) : TFa := x.2
def J_fy : BT Tryz.prog :=
 Bg Tryz.prog Tryz.f59 57 [] [(2, [.back (.loc 9 0)]), (3, [.back (.loc 9 0)]), (4, [.back (.loc 9 0)]), (5, [.back (.loc 26 0), .back (.loc 22 0), .back (.loc 9 0)]), (6, [.back (.loc 26 0), .back (.loc 22 0), .back (.loc 9 0)]), (7, [.back (.loc 40 0), .back (.loc 36 0), .back (.loc 26 0), .back (.loc 22 0), .back (.loc 9 0)])] [(4, [.HR (.par 0) [.Bk 2 3] 22]), (6, [.HR (.par 0) [.Bk 2 3] 36])] [.back (.loc 40 0), .back (.loc 36 0), .back (.loc 26 0), .back (.loc 22 0), .back (.loc 9 0)] [.any] [sh_TFa] [con_fm, con_f1h] RR_fy [(0, [⟨.loc 22 0, .par 0, [.Bk 2 3], none, none⟩, ⟨.loc 36 0, .par 0, [.Bk 2 3], none, none⟩])] fun y => [V.bool y.1, e_TFa y.2]
def S_fy : AR :=
 Aq Tryz.f59 2 1 X_fy (fun x => [(V.ptr (.par 0) []), (V.int .i64) x.1, e_TFa x.2]) fun l => (dI (at_ l 1), d_TFa (at_ l 2))
def tt_fy (x : X_fy) : TT Tryz.prog RR_fy :=
 (.need (BQ x.fst x.snd.threads.n) <|
 (.need ((Nat.beq x.snd.threads.n x.snd.threads.n) && true) <|
 (.need ((true && true) && (Nat.beq x.snd.threads.n x.snd.threads.n)) <|
 (.ite (Ae (x.snd.threads.get ((0 : Nat) + (Int.toNat x.fst))).Phase 1)
 (.need (BQ (x.snd.threads.get ((0 : Nat) + (Int.toNat x.fst))).Ring x.snd.rings.n) <|
 (.need (((Nat.beq x.snd.rings.n x.snd.rings.n) && true) && (!(x.snd.rings.get ((0 : Nat) + (Int.toNat (x.snd.threads.get ((0 : Nat) + (Int.toNat x.fst))).Ring))).nil)) <|
 (.call con_f1h (x.snd.rings.get ((0 : Nat) + (Int.toNat (x.snd.threads.get ((0 : Nat) + (Int.toNat x.fst))).Ring))).x fun (y1 : R_f1h) =>
 (.need ((true && true) && (((Nat.beq x.snd.rings.n x.snd.rings.n) && (Nat.blt ((0 : Nat) + (Int.toNat (x.snd.threads.get ((0 : Nat) + (Int.toNat x.fst))).Ring)) x.snd.rings.n)) && (!(x.snd.rings.get ((0 : Nat) + (Int.toNat (x.snd.threads.get ((0 : Nat) + (Int.toNat x.fst))).Ring))).nil))) <|
 (.side (((fun v : Nat → V => v = v) (fun i2 => (cond (Nat.beq i2 ((0 : Nat) + (Int.toNat (x.snd.threads.get ((0 : Nat) + (Int.toNat x.fst))).Ring))) (V.ptr (Id.loc 26 0) List.nil) (V.Af (x.snd.rings.get i2).nil (V.cons (V.cons (V.int IntKind.u64 (x.snd.rings.get i2).x.AA.tail) (V.cons (V.A0 36 1 (x.snd.rings.get i2).x.AA.AD.nil (x.snd.rings.get i2).x.AA.AD.n (fun i3 => (V.int IntKind.u64 ((x.snd.rings.get i2).x.AA.AD.get i3)))) V.unit)) (V.cons (V.Af (x.snd.rings.get i2).x.s.nil (V.cons (V.A0 175 3 (x.snd.rings.get i2).x.s.x.l.nil (x.snd.rings.get i2).x.s.x.l.n (fun i3 => (V.cons (V.int IntKind.u64 ((x.snd.rings.get i2).x.s.x.l.get i3).AQ) (V.cons (V.int IntKind.u64 ((x.snd.rings.get i2).x.s.x.l.get i3).Value) (V.cons (V.int IntKind.i64 ((x.snd.rings.get i2).x.s.x.l.get i3).Left) V.unit))))) (V.cons (V.int IntKind.i64 (x.snd.rings.get i2).x.s.x.AO) V.unit))) (V.cons (V.int IntKind.u64 (x.snd.rings.get i2).x.most) (V.cons (V.bool (x.snd.rings.get i2).x.closed) V.unit)))))))) ∧ (((fun v : V => v = v) (V.cons (V.cons (V.int IntKind.u64 (x.snd.rings.get ((0 : Nat) + (Int.toNat (x.snd.threads.get ((0 : Nat) + (Int.toNat x.fst))).Ring))).x.AA.tail) (V.cons (V.A0 36 1 (x.snd.rings.get ((0 : Nat) + (Int.toNat (x.snd.threads.get ((0 : Nat) + (Int.toNat x.fst))).Ring))).x.AA.AD.nil (x.snd.rings.get ((0 : Nat) + (Int.toNat (x.snd.threads.get ((0 : Nat) + (Int.toNat x.fst))).Ring))).x.AA.AD.n (fun i2 => (V.int IntKind.u64 ((x.snd.rings.get ((0 : Nat) + (Int.toNat (x.snd.threads.get ((0 : Nat) + (Int.toNat x.fst))).Ring))).x.AA.AD.get i2)))) V.unit)) (V.cons (V.Af (x.snd.rings.get ((0 : Nat) + (Int.toNat (x.snd.threads.get ((0 : Nat) + (Int.toNat x.fst))).Ring))).x.s.nil (V.cons (V.A0 175 3 (x.snd.rings.get ((0 : Nat) + (Int.toNat (x.snd.threads.get ((0 : Nat) + (Int.toNat x.fst))).Ring))).x.s.x.l.nil (x.snd.rings.get ((0 : Nat) + (Int.toNat (x.snd.threads.get ((0 : Nat) + (Int.toNat x.fst))).Ring))).x.s.x.l.n (fun i2 => (V.cons (V.int IntKind.u64 ((x.snd.rings.get ((0 : Nat) + (Int.toNat (x.snd.threads.get ((0 : Nat) + (Int.toNat x.fst))).Ring))).x.s.x.l.get i2).AQ) (V.cons (V.int IntKind.u64 ((x.snd.rings.get ((0 : Nat) + (Int.toNat (x.snd.threads.get ((0 : Nat) + (Int.toNat x.fst))).Ring))).x.s.x.l.get i2).Value) (V.cons (V.int IntKind.i64 ((x.snd.rings.get ((0 : Nat) + (Int.toNat (x.snd.threads.get ((0 : Nat) + (Int.toNat x.fst))).Ring))).x.s.x.l.get i2).Left) V.unit))))) (V.cons (V.int IntKind.i64 (x.snd.rings.get ((0 : Nat) + (Int.toNat (x.snd.threads.get ((0 : Nat) + (Int.toNat x.fst))).Ring))).x.s.x.AO) V.unit))) (V.cons (V.int IntKind.u64 (x.snd.rings.get ((0 : Nat) + (Int.toNat (x.snd.threads.get ((0 : Nat) + (Int.toNat x.fst))).Ring))).x.most) (V.cons (V.bool (x.snd.rings.get ((0 : Nat) + (Int.toNat (x.snd.threads.get ((0 : Nat) + (Int.toNat x.fst))).Ring))).x.closed) V.unit))))) ∧ ((fun v : V => v = v) (V.Af (x.snd.rings.get ((0 : Nat) + (Int.toNat (x.snd.threads.get ((0 : Nat) + (Int.toNat x.fst))).Ring))).nil (V.cons (V.cons (V.int IntKind.u64 (x.snd.rings.get ((0 : Nat) + (Int.toNat (x.snd.threads.get ((0 : Nat) + (Int.toNat x.fst))).Ring))).x.AA.tail) (V.cons (V.A0 36 1 (x.snd.rings.get ((0 : Nat) + (Int.toNat (x.snd.threads.get ((0 : Nat) + (Int.toNat x.fst))).Ring))).x.AA.AD.nil (x.snd.rings.get ((0 : Nat) + (Int.toNat (x.snd.threads.get ((0 : Nat) + (Int.toNat x.fst))).Ring))).x.AA.AD.n (fun i2 => (V.int IntKind.u64 ((x.snd.rings.get ((0 : Nat) + (Int.toNat (x.snd.threads.get ((0 : Nat) + (Int.toNat x.fst))).Ring))).x.AA.AD.get i2)))) V.unit)) (V.cons (V.Af (x.snd.rings.get ((0 : Nat) + (Int.toNat (x.snd.threads.get ((0 : Nat) + (Int.toNat x.fst))).Ring))).x.s.nil (V.cons (V.A0 175 3 (x.snd.rings.get ((0 : Nat) + (Int.toNat (x.snd.threads.get ((0 : Nat) + (Int.toNat x.fst))).Ring))).x.s.x.l.nil (x.snd.rings.get ((0 : Nat) + (Int.toNat (x.snd.threads.get ((0 : Nat) + (Int.toNat x.fst))).Ring))).x.s.x.l.n (fun i2 => (V.cons (V.int IntKind.u64 ((x.snd.rings.get ((0 : Nat) + (Int.toNat (x.snd.threads.get ((0 : Nat) + (Int.toNat x.fst))).Ring))).x.s.x.l.get i2).AQ) (V.cons (V.int IntKind.u64 ((x.snd.rings.get ((0 : Nat) + (Int.toNat (x.snd.threads.get ((0 : Nat) + (Int.toNat x.fst))).Ring))).x.s.x.l.get i2).Value) (V.cons (V.int IntKind.i64 ((x.snd.rings.get ((0 : Nat) + (Int.toNat (x.snd.threads.get ((0 : Nat) + (Int.toNat x.fst))).Ring))).x.s.x.l.get i2).Left) V.unit))))) (V.cons (V.int IntKind.i64 (x.snd.rings.get ((0 : Nat) + (Int.toNat (x.snd.threads.get ((0 : Nat) + (Int.toNat x.fst))).Ring))).x.s.x.AO) V.unit))) (V.cons (V.int IntKind.u64 (x.snd.rings.get ((0 : Nat) + (Int.toNat (x.snd.threads.get ((0 : Nat) + (Int.toNat x.fst))).Ring))).x.most) (V.cons (V.bool (x.snd.rings.get ((0 : Nat) + (Int.toNat (x.snd.threads.get ((0 : Nat) + (Int.toNat x.fst))).Ring))).x.closed) V.unit)))))))) <|
 (.need ((true && true) && (Nat.beq x.snd.rings.n x.snd.rings.n)) <|
 (.ret ((B8 (x.snd.threads.get ((0 : Nat) + (Int.toNat x.fst))).AG y1), x.snd))))))))
 (.ite (Ae (x.snd.threads.get ((0 : Nat) + (Int.toNat x.fst))).Phase 2)
 (.need (BQ (x.snd.threads.get ((0 : Nat) + (Int.toNat x.fst))).Ring x.snd.rings.n) <|
 (.need (((Nat.beq x.snd.rings.n x.snd.rings.n) && true) && (!(x.snd.rings.get ((0 : Nat) + (Int.toNat (x.snd.threads.get ((0 : Nat) + (Int.toNat x.fst))).Ring))).nil)) <|
 (.need (BQ x.fst x.snd.p.AB.n) <|
 (.need (BQ (x.snd.threads.get ((0 : Nat) + (Int.toNat x.fst))).At (x.snd.p.AB.get (Int.toNat x.fst)).n) <|
 (.call con_fm ((IntKind.i64.wrap ((x.snd.p.AB.get (Int.toNat x.fst)).get (Int.toNat (x.snd.threads.get ((0 : Nat) + (Int.toNat x.fst))).At)).K), (x.snd.rings.get ((0 : Nat) + (Int.toNat (x.snd.threads.get ((0 : Nat) + (Int.toNat x.fst))).Ring))).x) fun (y1 : R_fm) =>
 (.need ((true && true) && (((Nat.beq x.snd.rings.n x.snd.rings.n) && (Nat.blt ((0 : Nat) + (Int.toNat (x.snd.threads.get ((0 : Nat) + (Int.toNat x.fst))).Ring)) x.snd.rings.n)) && (!(x.snd.rings.get ((0 : Nat) + (Int.toNat (x.snd.threads.get ((0 : Nat) + (Int.toNat x.fst))).Ring))).nil))) <|
 (.side (((fun v : Nat → V => v = v) (fun i2 => (cond (Nat.beq i2 ((0 : Nat) + (Int.toNat (x.snd.threads.get ((0 : Nat) + (Int.toNat x.fst))).Ring))) (V.ptr (Id.loc 40 0) List.nil) (V.Af (x.snd.rings.get i2).nil (V.cons (V.cons (V.int IntKind.u64 (x.snd.rings.get i2).x.AA.tail) (V.cons (V.A0 36 1 (x.snd.rings.get i2).x.AA.AD.nil (x.snd.rings.get i2).x.AA.AD.n (fun i3 => (V.int IntKind.u64 ((x.snd.rings.get i2).x.AA.AD.get i3)))) V.unit)) (V.cons (V.Af (x.snd.rings.get i2).x.s.nil (V.cons (V.A0 175 3 (x.snd.rings.get i2).x.s.x.l.nil (x.snd.rings.get i2).x.s.x.l.n (fun i3 => (V.cons (V.int IntKind.u64 ((x.snd.rings.get i2).x.s.x.l.get i3).AQ) (V.cons (V.int IntKind.u64 ((x.snd.rings.get i2).x.s.x.l.get i3).Value) (V.cons (V.int IntKind.i64 ((x.snd.rings.get i2).x.s.x.l.get i3).Left) V.unit))))) (V.cons (V.int IntKind.i64 (x.snd.rings.get i2).x.s.x.AO) V.unit))) (V.cons (V.int IntKind.u64 (x.snd.rings.get i2).x.most) (V.cons (V.bool (x.snd.rings.get i2).x.closed) V.unit)))))))) ∧ (((fun v : V => v = v) (V.cons (V.cons (V.int IntKind.u64 (x.snd.rings.get ((0 : Nat) + (Int.toNat (x.snd.threads.get ((0 : Nat) + (Int.toNat x.fst))).Ring))).x.AA.tail) (V.cons (V.A0 36 1 (x.snd.rings.get ((0 : Nat) + (Int.toNat (x.snd.threads.get ((0 : Nat) + (Int.toNat x.fst))).Ring))).x.AA.AD.nil (x.snd.rings.get ((0 : Nat) + (Int.toNat (x.snd.threads.get ((0 : Nat) + (Int.toNat x.fst))).Ring))).x.AA.AD.n (fun i2 => (V.int IntKind.u64 ((x.snd.rings.get ((0 : Nat) + (Int.toNat (x.snd.threads.get ((0 : Nat) + (Int.toNat x.fst))).Ring))).x.AA.AD.get i2)))) V.unit)) (V.cons (V.Af (x.snd.rings.get ((0 : Nat) + (Int.toNat (x.snd.threads.get ((0 : Nat) + (Int.toNat x.fst))).Ring))).x.s.nil (V.cons (V.A0 175 3 (x.snd.rings.get ((0 : Nat) + (Int.toNat (x.snd.threads.get ((0 : Nat) + (Int.toNat x.fst))).Ring))).x.s.x.l.nil (x.snd.rings.get ((0 : Nat) + (Int.toNat (x.snd.threads.get ((0 : Nat) + (Int.toNat x.fst))).Ring))).x.s.x.l.n (fun i2 => (V.cons (V.int IntKind.u64 ((x.snd.rings.get ((0 : Nat) + (Int.toNat (x.snd.threads.get ((0 : Nat) + (Int.toNat x.fst))).Ring))).x.s.x.l.get i2).AQ) (V.cons (V.int IntKind.u64 ((x.snd.rings.get ((0 : Nat) + (Int.toNat (x.snd.threads.get ((0 : Nat) + (Int.toNat x.fst))).Ring))).x.s.x.l.get i2).Value) (V.cons (V.int IntKind.i64 ((x.snd.rings.get ((0 : Nat) + (Int.toNat (x.snd.threads.get ((0 : Nat) + (Int.toNat x.fst))).Ring))).x.s.x.l.get i2).Left) V.unit))))) (V.cons (V.int IntKind.i64 (x.snd.rings.get ((0 : Nat) + (Int.toNat (x.snd.threads.get ((0 : Nat) + (Int.toNat x.fst))).Ring))).x.s.x.AO) V.unit))) (V.cons (V.int IntKind.u64 (x.snd.rings.get ((0 : Nat) + (Int.toNat (x.snd.threads.get ((0 : Nat) + (Int.toNat x.fst))).Ring))).x.most) (V.cons (V.bool (x.snd.rings.get ((0 : Nat) + (Int.toNat (x.snd.threads.get ((0 : Nat) + (Int.toNat x.fst))).Ring))).x.closed) V.unit))))) ∧ ((fun v : V => v = v) (V.Af (x.snd.rings.get ((0 : Nat) + (Int.toNat (x.snd.threads.get ((0 : Nat) + (Int.toNat x.fst))).Ring))).nil (V.cons (V.cons (V.int IntKind.u64 (x.snd.rings.get ((0 : Nat) + (Int.toNat (x.snd.threads.get ((0 : Nat) + (Int.toNat x.fst))).Ring))).x.AA.tail) (V.cons (V.A0 36 1 (x.snd.rings.get ((0 : Nat) + (Int.toNat (x.snd.threads.get ((0 : Nat) + (Int.toNat x.fst))).Ring))).x.AA.AD.nil (x.snd.rings.get ((0 : Nat) + (Int.toNat (x.snd.threads.get ((0 : Nat) + (Int.toNat x.fst))).Ring))).x.AA.AD.n (fun i2 => (V.int IntKind.u64 ((x.snd.rings.get ((0 : Nat) + (Int.toNat (x.snd.threads.get ((0 : Nat) + (Int.toNat x.fst))).Ring))).x.AA.AD.get i2)))) V.unit)) (V.cons (V.Af (x.snd.rings.get ((0 : Nat) + (Int.toNat (x.snd.threads.get ((0 : Nat) + (Int.toNat x.fst))).Ring))).x.s.nil (V.cons (V.A0 175 3 (x.snd.rings.get ((0 : Nat) + (Int.toNat (x.snd.threads.get ((0 : Nat) + (Int.toNat x.fst))).Ring))).x.s.x.l.nil (x.snd.rings.get ((0 : Nat) + (Int.toNat (x.snd.threads.get ((0 : Nat) + (Int.toNat x.fst))).Ring))).x.s.x.l.n (fun i2 => (V.cons (V.int IntKind.u64 ((x.snd.rings.get ((0 : Nat) + (Int.toNat (x.snd.threads.get ((0 : Nat) + (Int.toNat x.fst))).Ring))).x.s.x.l.get i2).AQ) (V.cons (V.int IntKind.u64 ((x.snd.rings.get ((0 : Nat) + (Int.toNat (x.snd.threads.get ((0 : Nat) + (Int.toNat x.fst))).Ring))).x.s.x.l.get i2).Value) (V.cons (V.int IntKind.i64 ((x.snd.rings.get ((0 : Nat) + (Int.toNat (x.snd.threads.get ((0 : Nat) + (Int.toNat x.fst))).Ring))).x.s.x.l.get i2).Left) V.unit))))) (V.cons (V.int IntKind.i64 (x.snd.rings.get ((0 : Nat) + (Int.toNat (x.snd.threads.get ((0 : Nat) + (Int.toNat x.fst))).Ring))).x.s.x.AO) V.unit))) (V.cons (V.int IntKind.u64 (x.snd.rings.get ((0 : Nat) + (Int.toNat (x.snd.threads.get ((0 : Nat) + (Int.toNat x.fst))).Ring))).x.most) (V.cons (V.bool (x.snd.rings.get ((0 : Nat) + (Int.toNat (x.snd.threads.get ((0 : Nat) + (Int.toNat x.fst))).Ring))).x.closed) V.unit)))))))) <|
 (.need ((true && true) && (Nat.beq x.snd.rings.n x.snd.rings.n)) <|
 (.ret ((B8 (x.snd.threads.get ((0 : Nat) + (Int.toNat x.fst))).AG y1), x.snd))))))))))
 (.ret (true, x.snd)))))))
theorem sd_fy (x : X_fy) : (tt_fy x).AJ :=
 (TT.sN (TT.sN (TT.sN (TT.sI (TT.sN (TT.sN (TT.sC fun _ => (TT.sN (TT.sS ⟨rfl, ⟨rfl, rfl⟩⟩ (TT.sN TT.sR)))))) (TT.sI (TT.sN (TT.sN (TT.sN (TT.sN (TT.sC fun _ => (TT.sN (TT.sS ⟨rfl, ⟨rfl, rfl⟩⟩ (TT.sN TT.sR)))))))) TT.sR)))))
theorem roT_fy (x : X_fy) : TT.Ro p_fy (w_fy x) (tt_fy x) :=
 (TT.rN (TT.rN (TT.rN (TT.rI (TT.rN (TT.rN (TT.rC fun _ => (TT.rN (TT.rS (TT.rN (TT.rR rfl))))))) (TT.rI (TT.rN (TT.rN (TT.rN (TT.rN (TT.rC fun _ => (TT.rN (TT.rS (TT.rN (TT.rR rfl))))))))) (TT.rR rfl))))))
def D_fy : AS X_fy R_fy := .ro (.of tt_fy) (fun y => (y.1)) (fun y x => (y, x.2)) fun x y h => congrArg (fun o => (y.1, o)) (roT_fy x y h)
def con_fy : BN Tryz.prog :=
 DC 59 J_fy S_fy (.of tt_fy) D_fy (fun y x => (y, x.2)) (fun y => V.bool y) 2 1 [.any, .any] (lk mxk lbn sd_fy) (fun x => ⟨(nu_e_TFa : ∀ y, (e_TFa y).Cd) (x.2), trivial⟩)
abbrev X_f4 : Type := TPg × TSt
abbrev R_f4 : Type := (Bx TFa) × Int
def J_f4 : BT Tryz.prog :=
 Bg Tryz.prog Tryz.f31 123 [(2, 3), (3, 3), (12, 1), (64, 1), (122, 1)] [(6, [.open_ 6]), (8, [.close (.loc 68 0)]), (9, [.close (.loc 68 0)]), (10, [.close (.loc 68 0)]), (11, [.close (.loc 68 0)]), (12, [.close (.loc 68 0)]), (13, [.close (.loc 68 0)]), (14, [.close (.loc 68 0)]), (15, [.close (.loc 103 0), .close (.loc 68 0)]), (16, [.close (.loc 103 0), .close (.loc 68 0)]), (17, [.close (.loc 103 0), .close (.loc 68 0)]), (18, [.close (.loc 103 0), .close (.loc 68 0)]), (19, [.close (.loc 103 0), .close (.loc 68 0)]), (20, [.close (.loc 103 0), .close (.loc 68 0)]), (21, [.close (.loc 103 0), .close (.loc 68 0)]), (22, [.close (.loc 103 0), .close (.loc 68 0)])] [(10, [.HR (.loc 6 1) [.Bk 2 3] 68]), (18, [.HR (.loc 6 1) [.Bk 1 2] 103])] [.close (.loc 103 0), .close (.loc 68 0), .Eg 4] [hbox_TFa, .any] [] [con_fy, con_f12, con_f9, con_f1q, con_fo] R_f4 [(0, [⟨.loc 68 0, .loc 6 1, [.Bk 2 3], none, none⟩, ⟨.loc 103 0, .loc 6 1, [.Bk 1 2], none, none⟩]), (6, [⟨.loc 68 0, .loc 6 1, [.Bk 2 3], none, none⟩, ⟨.loc 103 0, .loc 6 1, [.Bk 1 2], none, none⟩]), (8, [⟨.loc 68 0, .loc 6 1, [.Bk 2 3], none, none⟩, ⟨.loc 103 0, .loc 6 1, [.Bk 1 2], none, none⟩]), (13, [⟨.loc 68 0, .loc 6 1, [.Bk 2 3], none, none⟩, ⟨.loc 103 0, .loc 6 1, [.Bk 1 2], none, none⟩]), (14, [⟨.loc 68 0, .loc 6 1, [.Bk 2 3], none, none⟩, ⟨.loc 103 0, .loc 6 1, [.Bk 1 2], none, none⟩]), (15, [⟨.loc 68 0, .loc 6 1, [.Bk 2 3], none, none⟩, ⟨.loc 103 0, .loc 6 1, [.Bk 1 2], none, none⟩]), (21, [⟨.loc 68 0, .loc 6 1, [.Bk 2 3], none, none⟩, ⟨.loc 103 0, .loc 6 1, [.Bk 1 2], none, none⟩])] fun y => [V.CR (V.cons (ebox_TFa y.1) (V.cons ((V.int .i64) y.2) (V.unit)))]
def S_f4 : AR :=
 Aq Tryz.f31 2 0 X_f4 (fun x => [e_TPg x.1, e_TSt x.2]) fun l => (d_TPg (at_ l 0), d_TSt (at_ l 1))
structure X_f4_6 where
 Gi : TPg
 Eh : TSt
 BO : TFa
def S_f4_6 : AR :=
 Ai Tryz.f31 6 (an [2, 3, 6]) [] [(.loc 6 1, sh_TFa)] X_f4_6 (fun x => [(DO e_TPg) x.Gi, (DO e_TSt) x.Eh, (V.ptr (.loc 6 1) []), e_TFa x.BO]) fun l => ⟨(DP d_TPg) (at_ l 0), (DP d_TSt) (at_ l 1), d_TFa (at_ l 3)⟩
structure X_f4_8 where
 Gi : TPg
 Eh : TSt
 MV : (Sl TRs)
 O2 : Int
 EJ : Int
 BO : TFa
def S_f4_8 : AR :=
 Ai Tryz.f31 8 [(2, .any), (3, .any), (6, .any), (57, hsl_TRs), (58, .any), (59, .any)] [] [(.loc 6 1, sh_TFa)] X_f4_8 (fun x => [(DO e_TPg) x.Gi, (DO e_TSt) x.Eh, (V.ptr (.loc 6 1) []), esl_TRs x.MV, (V.int .i64) x.O2, (V.int .i64) x.EJ, e_TFa x.BO]) fun l => ⟨(DP d_TPg) (at_ l 0), (DP d_TSt) (at_ l 1), dsl_TRs (at_ l 3), dI (at_ l 4), dI (at_ l 5), d_TFa (at_ l 6)⟩
structure X_f4_13 where
 Gi : TPg
 Eh : TSt
 MV : (Sl TRs)
 O2 : Int
 EJ : Int
 BO : TFa
def S_f4_13 : AR :=
 Ai Tryz.f31 13 [(2, .any), (3, .any), (6, .any), (57, hsl_TRs), (58, .any), (59, .any)] [] [(.loc 6 1, sh_TFa)] X_f4_13 (fun x => [(DO e_TPg) x.Gi, (DO e_TSt) x.Eh, (V.ptr (.loc 6 1) []), esl_TRs x.MV, (V.int .i64) x.O2, (V.int .i64) x.EJ, e_TFa x.BO]) fun l => ⟨(DP d_TPg) (at_ l 0), (DP d_TSt) (at_ l 1), dsl_TRs (at_ l 3), dI (at_ l 4), dI (at_ l 5), d_TFa (at_ l 6)⟩
structure X_f4_14 where
 Gi : TPg
 Eh : TSt
 BO : TFa
def S_f4_14 : AR :=
 Ai Tryz.f31 14 (an [2, 3, 6]) [] [(.loc 6 1, sh_TFa)] X_f4_14 (fun x => [(DO e_TPg) x.Gi, (DO e_TSt) x.Eh, (V.ptr (.loc 6 1) []), e_TFa x.BO]) fun l => ⟨(DP d_TPg) (at_ l 0), (DP d_TSt) (at_ l 1), d_TFa (at_ l 3)⟩
structure X_f4_15 where
 Gi : TPg
 Ei : (Sl TTh)
 O1 : Int
 CB : Int
 BO : TFa
def S_f4_15 : AR :=
 Ai Tryz.f31 15 [(2, .any), (6, .any), (89, hsl_TTh), (90, .any), (91, .any)] [] [(.loc 6 1, sh_TFa)] X_f4_15 (fun x => [(DO e_TPg) x.Gi, (V.ptr (.loc 6 1) []), esl_TTh x.Ei, (V.int .i64) x.O1, (V.int .i64) x.CB, e_TFa x.BO]) fun l => ⟨(DP d_TPg) (at_ l 0), dsl_TTh (at_ l 2), dI (at_ l 3), dI (at_ l 4), d_TFa (at_ l 5)⟩
structure X_f4_21 where
 Gi : TPg
 Ei : (Sl TTh)
 O1 : Int
 CB : Int
 BO : TFa
def S_f4_21 : AR :=
 Ai Tryz.f31 21 [(2, .any), (6, .any), (89, hsl_TTh), (90, .any), (91, .any)] [] [(.loc 6 1, sh_TFa)] X_f4_21 (fun x => [(DO e_TPg) x.Gi, (V.ptr (.loc 6 1) []), esl_TTh x.Ei, (V.int .i64) x.O1, (V.int .i64) x.CB, e_TFa x.BO]) fun l => ⟨(DP d_TPg) (at_ l 0), dsl_TTh (at_ l 2), dI (at_ l 3), dI (at_ l 4), d_TFa (at_ l 5)⟩
def tt_f4_21 (D_f4_15 : AS X_f4_15 R_f4) (x : X_f4_21) : TT Tryz.prog R_f4 :=
 (.Ab S_f4_15 D_f4_15 (X_f4_15.mk x.Gi x.Ei x.O1 (IntKind.i64.wrap (x.CB + 1)) x.BO))
theorem sd_f4_21 (D_f4_15 : AS X_f4_15 R_f4) (x : X_f4_21) : (tt_f4_21 D_f4_15 x).AJ :=
 TT.sJ
def D_f4_21 (D_f4_15 : AS X_f4_15 R_f4) : AS X_f4_21 R_f4 := .of (tt_f4_21 D_f4_15)
theorem ok_f4_21 (D_f4_15 : AS X_f4_15 R_f4) (h_15 : AX J_f4 S_f4_15 D_f4_15) : AX J_f4 S_f4_21 (D_f4_21 D_f4_15) :=
 lk mxk (lbc h_15 rfl lbn) (sd_f4_21 D_f4_15)
def tt_f4_15 (D_f4_15 : AS X_f4_15 R_f4) (x : X_f4_15) : TT Tryz.prog R_f4 :=
 (.ite (B8 x.CB x.O1)
 (.need (BQ x.CB x.Ei.n) <|
 (.call con_f1q (x.Ei.get (Int.toNat x.CB)).Seen fun (y2 : R_f1q) =>
 (.need (BQ x.CB x.BO.threads.n) <|
 (.need ((Nat.beq x.BO.threads.n x.BO.threads.n) && true) <|
 (.need ((true && true) && (Nat.beq x.BO.threads.n x.BO.threads.n)) <|
 (.need (BQ x.CB x.Gi.AB.n) <|
 (.call con_fo ((x.Gi.AB.get (Int.toNat x.CB)), (TTh.mk (x.Ei.get (Int.toNat x.CB)).At (x.Ei.get (Int.toNat x.CB)).Phase (x.Ei.get (Int.toNat x.CB)).Ring (x.Ei.get (Int.toNat x.CB)).Status (x.Ei.get (Int.toNat x.CB)).AG (x.Ei.get (Int.toNat x.CB)).Ao y2)) fun (y3 : R_fo) =>
 (.ite (!y3)
 (.ret ((Bx.mk true (TFa.mk (TPg.mk (Sl.mk true 0 (fun _i4 => (TRg.mk 0 0 0))) (Sl.mk true 0 (fun _i4 => (Sl.mk true 0 (fun _i5 => (TIn.mk 0 0 0 0 0 0)))))) (Sl.mk true 0 (fun _i4 => (TTh.mk 0 0 0 0 0 (fun _i5 => (0 : Int)) (Sl.mk true 0 (fun _i5 => (0 : Int)))))) (Sl.mk true 0 (fun _i4 => (Bx.mk true (TRr.mk (TRc.mk 0 (Sl.mk true 0 (fun _i5 => (0 : Int)))) (Bx.mk true (TSs.mk (Sl.mk true 0 (fun _i5 => (TSo.mk 0 0 0))) 0)) 0 false)))) 0 0 false)), 3))
 (.call con_fy (x.CB, (TFa.mk x.BO.p (Sl.mk x.BO.threads.nil x.BO.threads.n (fun i4 => (TTh.mk (cond (Nat.beq i4 ((0 : Nat) + (Int.toNat x.CB))) (x.Ei.get (Int.toNat x.CB)).At (x.BO.threads.get i4).At) (cond (Nat.beq i4 ((0 : Nat) + (Int.toNat x.CB))) (x.Ei.get (Int.toNat x.CB)).Phase (x.BO.threads.get i4).Phase) (cond (Nat.beq i4 ((0 : Nat) + (Int.toNat x.CB))) (x.Ei.get (Int.toNat x.CB)).Ring (x.BO.threads.get i4).Ring) (cond (Nat.beq i4 ((0 : Nat) + (Int.toNat x.CB))) (x.Ei.get (Int.toNat x.CB)).Status (x.BO.threads.get i4).Status) (cond (Nat.beq i4 ((0 : Nat) + (Int.toNat x.CB))) (x.Ei.get (Int.toNat x.CB)).AG (x.BO.threads.get i4).AG) (fun i5 => (cond (Nat.beq i4 ((0 : Nat) + (Int.toNat x.CB))) ((x.Ei.get (Int.toNat x.CB)).Ao i5) ((x.BO.threads.get i4).Ao i5))) (Sl.mk (cond (Nat.beq i4 ((0 : Nat) + (Int.toNat x.CB))) y2.nil (x.BO.threads.get i4).Seen.nil) (cond (Nat.beq i4 ((0 : Nat) + (Int.toNat x.CB))) y2.n (x.BO.threads.get i4).Seen.n) (fun i5 => (cond (Nat.beq i4 ((0 : Nat) + (Int.toNat x.CB))) (y2.get i5) ((x.BO.threads.get i4).Seen.get i5))))))) x.BO.rings x.BO.now x.BO.reads x.BO.ended)) fun (y4 : R_fy) =>
 (.ite (!y4)
 (.ret ((Bx.mk true (TFa.mk (TPg.mk (Sl.mk true 0 (fun _i5 => (TRg.mk 0 0 0))) (Sl.mk true 0 (fun _i5 => (Sl.mk true 0 (fun _i6 => (TIn.mk 0 0 0 0 0 0)))))) (Sl.mk true 0 (fun _i5 => (TTh.mk 0 0 0 0 0 (fun _i6 => (0 : Int)) (Sl.mk true 0 (fun _i6 => (0 : Int)))))) (Sl.mk true 0 (fun _i5 => (Bx.mk true (TRr.mk (TRc.mk 0 (Sl.mk true 0 (fun _i6 => (0 : Int)))) (Bx.mk true (TSs.mk (Sl.mk true 0 (fun _i6 => (TSo.mk 0 0 0))) 0)) 0 false)))) 0 0 false)), 3))
 (.Ab S_f4_21 (D_f4_21 D_f4_15) (X_f4_21.mk x.Gi x.Ei x.O1 x.CB (TFa.mk x.BO.p (Sl.mk x.BO.threads.nil x.BO.threads.n (fun i5 => (TTh.mk (cond (Nat.beq i5 ((0 : Nat) + (Int.toNat x.CB))) (x.Ei.get (Int.toNat x.CB)).At (x.BO.threads.get i5).At) (cond (Nat.beq i5 ((0 : Nat) + (Int.toNat x.CB))) (x.Ei.get (Int.toNat x.CB)).Phase (x.BO.threads.get i5).Phase) (cond (Nat.beq i5 ((0 : Nat) + (Int.toNat x.CB))) (x.Ei.get (Int.toNat x.CB)).Ring (x.BO.threads.get i5).Ring) (cond (Nat.beq i5 ((0 : Nat) + (Int.toNat x.CB))) (x.Ei.get (Int.toNat x.CB)).Status (x.BO.threads.get i5).Status) (cond (Nat.beq i5 ((0 : Nat) + (Int.toNat x.CB))) (x.Ei.get (Int.toNat x.CB)).AG (x.BO.threads.get i5).AG) (fun i6 => (cond (Nat.beq i5 ((0 : Nat) + (Int.toNat x.CB))) ((x.Ei.get (Int.toNat x.CB)).Ao i6) ((x.BO.threads.get i5).Ao i6))) (Sl.mk (cond (Nat.beq i5 ((0 : Nat) + (Int.toNat x.CB))) y2.nil (x.BO.threads.get i5).Seen.nil) (cond (Nat.beq i5 ((0 : Nat) + (Int.toNat x.CB))) y2.n (x.BO.threads.get i5).Seen.n) (fun i6 => (cond (Nat.beq i5 ((0 : Nat) + (Int.toNat x.CB))) (y2.get i6) ((x.BO.threads.get i5).Seen.get i6))))))) x.BO.rings x.BO.now x.BO.reads x.BO.ended)))))))))))))
 (.ret ((Bx.mk false x.BO), 0)))
theorem sd_f4_15 (D_f4_15 : AS X_f4_15 R_f4) (x : X_f4_15) : (tt_f4_15 D_f4_15 x).AJ :=
 (TT.sI (TT.sN (TT.sC fun _ => (TT.sN (TT.sN (TT.sN (TT.sN (TT.sC fun _ => (TT.sI TT.sR (TT.sC fun _ => (TT.sI TT.sR TT.sJ)))))))))) TT.sR)
def D_f4_15 : AS X_f4_15 R_f4 := AS.loop tt_f4_15
theorem ok_f4_15 : AX J_f4 S_f4_15 D_f4_15 :=
 BG fun D_f4_15 h_15 => lk mxk (lbc h_15 rfl (lbc (ok_f4_21 D_f4_15 h_15) rfl lbn)) (sd_f4_15 D_f4_15)
def tt_f4_14 (x : X_f4_14) : TT Tryz.prog R_f4 :=
 (.Ab S_f4_15 D_f4_15 (X_f4_15.mk x.Gi x.Eh.AB ((x.Eh.AB.n : Nat) : Int) 0 x.BO))
theorem sd_f4_14 (x : X_f4_14) : (tt_f4_14 x).AJ :=
 TT.sJ
def D_f4_14 : AS X_f4_14 R_f4 := .of tt_f4_14
theorem ok_f4_14 : AX J_f4 S_f4_14 D_f4_14 :=
 lk mxk (lbc ok_f4_15 rfl lbn) sd_f4_14
def tt_f4_13 (D_f4_8 : AS X_f4_8 R_f4) (x : X_f4_13) : TT Tryz.prog R_f4 :=
 (.Ab S_f4_8 D_f4_8 (X_f4_8.mk x.Gi x.Eh x.MV x.O2 (IntKind.i64.wrap (x.EJ + 1)) x.BO))
theorem sd_f4_13 (D_f4_8 : AS X_f4_8 R_f4) (x : X_f4_13) : (tt_f4_13 D_f4_8 x).AJ :=
 TT.sJ
def D_f4_13 (D_f4_8 : AS X_f4_8 R_f4) : AS X_f4_13 R_f4 := .of (tt_f4_13 D_f4_8)
theorem ok_f4_13 (D_f4_8 : AS X_f4_8 R_f4) (h_8 : AX J_f4 S_f4_8 D_f4_8) : AX J_f4 S_f4_13 (D_f4_13 D_f4_8) :=
 lk mxk (lbc h_8 rfl (lbc ok_f4_15 rfl (lbc ok_f4_14 rfl lbn))) (sd_f4_13 D_f4_8)
def tt_f4_8 (D_f4_8 : AS X_f4_8 R_f4) (x : X_f4_8) : TT Tryz.prog R_f4 :=
 (.ite (B8 x.EJ x.O2)
 (.need (BQ x.EJ x.MV.n) <|
 (.need (BQ x.EJ x.Gi.AF.n) <|
 (.call con_f9 ((x.Gi.AF.get (Int.toNat x.EJ)), (x.MV.get (Int.toNat x.EJ))) fun (y2 : R_f9) =>
 (.need (BQ x.EJ x.BO.rings.n) <|
 (.need ((Nat.beq x.BO.rings.n x.BO.rings.n) && true) <|
 (.need ((true && true) && (Nat.beq x.BO.rings.n x.BO.rings.n)) <|
 (.ite (!(Ae y2.snd 0))
 (.ret ((Bx.mk true (TFa.mk (TPg.mk (Sl.mk true 0 (fun _i3 => (TRg.mk 0 0 0))) (Sl.mk true 0 (fun _i3 => (Sl.mk true 0 (fun _i4 => (TIn.mk 0 0 0 0 0 0)))))) (Sl.mk true 0 (fun _i3 => (TTh.mk 0 0 0 0 0 (fun _i4 => (0 : Int)) (Sl.mk true 0 (fun _i4 => (0 : Int)))))) (Sl.mk true 0 (fun _i3 => (Bx.mk true (TRr.mk (TRc.mk 0 (Sl.mk true 0 (fun _i4 => (0 : Int)))) (Bx.mk true (TSs.mk (Sl.mk true 0 (fun _i4 => (TSo.mk 0 0 0))) 0)) 0 false)))) 0 0 false)), 3))
 (.ite (B6 2305843009213693952 (x.MV.get (Int.toNat x.EJ)).A6)
 (.ret ((Bx.mk true (TFa.mk (TPg.mk (Sl.mk true 0 (fun _i3 => (TRg.mk 0 0 0))) (Sl.mk true 0 (fun _i3 => (Sl.mk true 0 (fun _i4 => (TIn.mk 0 0 0 0 0 0)))))) (Sl.mk true 0 (fun _i3 => (TTh.mk 0 0 0 0 0 (fun _i4 => (0 : Int)) (Sl.mk true 0 (fun _i4 => (0 : Int)))))) (Sl.mk true 0 (fun _i3 => (Bx.mk true (TRr.mk (TRc.mk 0 (Sl.mk true 0 (fun _i4 => (0 : Int)))) (Bx.mk true (TSs.mk (Sl.mk true 0 (fun _i4 => (TSo.mk 0 0 0))) 0)) 0 false)))) 0 0 false)), 3))
 (.Ab S_f4_13 (D_f4_13 D_f4_8) (X_f4_13.mk x.Gi x.Eh x.MV x.O2 x.EJ (TFa.mk x.BO.p x.BO.threads (Sl.mk x.BO.rings.nil x.BO.rings.n (fun i3 => (Bx.mk (cond (Nat.beq i3 ((0 : Nat) + (Int.toNat x.EJ))) y2.fst.nil (x.BO.rings.get i3).nil) (TRr.mk (TRc.mk (cond (Nat.beq i3 ((0 : Nat) + (Int.toNat x.EJ))) y2.fst.x.AA.tail (x.BO.rings.get i3).x.AA.tail) (Sl.mk (cond (Nat.beq i3 ((0 : Nat) + (Int.toNat x.EJ))) y2.fst.x.AA.AD.nil (x.BO.rings.get i3).x.AA.AD.nil) (cond (Nat.beq i3 ((0 : Nat) + (Int.toNat x.EJ))) y2.fst.x.AA.AD.n (x.BO.rings.get i3).x.AA.AD.n) (fun i4 => (cond (Nat.beq i3 ((0 : Nat) + (Int.toNat x.EJ))) (y2.fst.x.AA.AD.get i4) ((x.BO.rings.get i3).x.AA.AD.get i4))))) (Bx.mk (cond (Nat.beq i3 ((0 : Nat) + (Int.toNat x.EJ))) y2.fst.x.s.nil (x.BO.rings.get i3).x.s.nil) (TSs.mk (Sl.mk (cond (Nat.beq i3 ((0 : Nat) + (Int.toNat x.EJ))) y2.fst.x.s.x.l.nil (x.BO.rings.get i3).x.s.x.l.nil) (cond (Nat.beq i3 ((0 : Nat) + (Int.toNat x.EJ))) y2.fst.x.s.x.l.n (x.BO.rings.get i3).x.s.x.l.n) (fun i4 => (TSo.mk (cond (Nat.beq i3 ((0 : Nat) + (Int.toNat x.EJ))) (y2.fst.x.s.x.l.get i4).AQ ((x.BO.rings.get i3).x.s.x.l.get i4).AQ) (cond (Nat.beq i3 ((0 : Nat) + (Int.toNat x.EJ))) (y2.fst.x.s.x.l.get i4).Value ((x.BO.rings.get i3).x.s.x.l.get i4).Value) (cond (Nat.beq i3 ((0 : Nat) + (Int.toNat x.EJ))) (y2.fst.x.s.x.l.get i4).Left ((x.BO.rings.get i3).x.s.x.l.get i4).Left)))) (cond (Nat.beq i3 ((0 : Nat) + (Int.toNat x.EJ))) y2.fst.x.s.x.AO (x.BO.rings.get i3).x.s.x.AO))) (cond (Nat.beq i3 ((0 : Nat) + (Int.toNat x.EJ))) y2.fst.x.most (x.BO.rings.get i3).x.most) (cond (Nat.beq i3 ((0 : Nat) + (Int.toNat x.EJ))) y2.fst.x.closed (x.BO.rings.get i3).x.closed))))) x.BO.now x.BO.reads x.BO.ended)))))))))))
 (.Ab S_f4_14 D_f4_14 (X_f4_14.mk x.Gi x.Eh x.BO)))
theorem sd_f4_8 (D_f4_8 : AS X_f4_8 R_f4) (x : X_f4_8) : (tt_f4_8 D_f4_8 x).AJ :=
 (TT.sI (TT.sN (TT.sN (TT.sC fun _ => (TT.sN (TT.sN (TT.sN (TT.sI TT.sR (TT.sI TT.sR TT.sJ)))))))) TT.sJ)
def D_f4_8 : AS X_f4_8 R_f4 := AS.loop tt_f4_8
theorem ok_f4_8 : AX J_f4 S_f4_8 D_f4_8 :=
 BG fun D_f4_8 h_8 => lk mxk (lbc h_8 rfl (lbc ok_f4_15 rfl (lbc ok_f4_14 rfl (lbc (ok_f4_13 D_f4_8 h_8) rfl lbn)))) (sd_f4_8 D_f4_8)
def tt_f4_6 (x : X_f4_6) : TT Tryz.prog R_f4 :=
 (.Ab S_f4_8 D_f4_8 (X_f4_8.mk x.Gi x.Eh x.Eh.AF ((x.Eh.AF.n : Nat) : Int) 0 (TFa.mk x.BO.p x.BO.threads x.BO.rings x.Eh.ED x.Eh.Reads x.Eh.Bt)))
theorem sd_f4_6 (x : X_f4_6) : (tt_f4_6 x).AJ :=
 TT.sJ
def D_f4_6 : AS X_f4_6 R_f4 := .of tt_f4_6
theorem ok_f4_6 : AX J_f4 S_f4_6 D_f4_6 :=
 lk mxk (lbc ok_f4_15 rfl (lbc ok_f4_14 rfl (lbc ok_f4_8 rfl lbn))) sd_f4_6
def tt_f4 (x : X_f4) : TT Tryz.prog R_f4 :=
 (.call con_f12 x.fst fun (y1 : R_f12) =>
 (.ite (!(Ae y1.snd 0))
 (.ret ((Bx.mk true (TFa.mk (TPg.mk (Sl.mk true 0 (fun _i2 => (TRg.mk 0 0 0))) (Sl.mk true 0 (fun _i2 => (Sl.mk true 0 (fun _i3 => (TIn.mk 0 0 0 0 0 0)))))) (Sl.mk true 0 (fun _i2 => (TTh.mk 0 0 0 0 0 (fun _i3 => (0 : Int)) (Sl.mk true 0 (fun _i3 => (0 : Int)))))) (Sl.mk true 0 (fun _i2 => (Bx.mk true (TRr.mk (TRc.mk 0 (Sl.mk true 0 (fun _i3 => (0 : Int)))) (Bx.mk true (TSs.mk (Sl.mk true 0 (fun _i3 => (TSo.mk 0 0 0))) 0)) 0 false)))) 0 0 false)), y1.snd))
 (.ite (!(Ae ((x.snd.AB.n : Nat) : Int) ((x.fst.AB.n : Nat) : Int)))
 (.ret ((Bx.mk true (TFa.mk (TPg.mk (Sl.mk true 0 (fun _i2 => (TRg.mk 0 0 0))) (Sl.mk true 0 (fun _i2 => (Sl.mk true 0 (fun _i3 => (TIn.mk 0 0 0 0 0 0)))))) (Sl.mk true 0 (fun _i2 => (TTh.mk 0 0 0 0 0 (fun _i3 => (0 : Int)) (Sl.mk true 0 (fun _i3 => (0 : Int)))))) (Sl.mk true 0 (fun _i2 => (Bx.mk true (TRr.mk (TRc.mk 0 (Sl.mk true 0 (fun _i3 => (0 : Int)))) (Bx.mk true (TSs.mk (Sl.mk true 0 (fun _i3 => (TSo.mk 0 0 0))) 0)) 0 false)))) 0 0 false)), 3))
 (.ite (!(Ae ((x.snd.AF.n : Nat) : Int) ((x.fst.AF.n : Nat) : Int)))
 (.ret ((Bx.mk true (TFa.mk (TPg.mk (Sl.mk true 0 (fun _i2 => (TRg.mk 0 0 0))) (Sl.mk true 0 (fun _i2 => (Sl.mk true 0 (fun _i3 => (TIn.mk 0 0 0 0 0 0)))))) (Sl.mk true 0 (fun _i2 => (TTh.mk 0 0 0 0 0 (fun _i3 => (0 : Int)) (Sl.mk true 0 (fun _i3 => (0 : Int)))))) (Sl.mk true 0 (fun _i2 => (Bx.mk true (TRr.mk (TRc.mk 0 (Sl.mk true 0 (fun _i3 => (0 : Int)))) (Bx.mk true (TSs.mk (Sl.mk true 0 (fun _i3 => (TSo.mk 0 0 0))) 0)) 0 false)))) 0 0 false)), 3))
 (.ite (B6 9223372036854775808 x.snd.ED)
 (.ret ((Bx.mk true (TFa.mk (TPg.mk (Sl.mk true 0 (fun _i2 => (TRg.mk 0 0 0))) (Sl.mk true 0 (fun _i2 => (Sl.mk true 0 (fun _i3 => (TIn.mk 0 0 0 0 0 0)))))) (Sl.mk true 0 (fun _i2 => (TTh.mk 0 0 0 0 0 (fun _i3 => (0 : Int)) (Sl.mk true 0 (fun _i3 => (0 : Int)))))) (Sl.mk true 0 (fun _i2 => (Bx.mk true (TRr.mk (TRc.mk 0 (Sl.mk true 0 (fun _i3 => (0 : Int)))) (Bx.mk true (TSs.mk (Sl.mk true 0 (fun _i3 => (TSo.mk 0 0 0))) 0)) 0 false)))) 0 0 false)), 3))
 (.need (!y1.fst.nil) <|
 (.Ab S_f4_6 D_f4_6 (X_f4_6.mk x.fst x.snd y1.fst.x))))))))
theorem sd_f4 (x : X_f4) : (tt_f4 x).AJ :=
 (TT.sC fun _ => (TT.sI TT.sR (TT.sI TT.sR (TT.sI TT.sR (TT.sI TT.sR (TT.sN TT.sJ))))))
def D_f4 : AS X_f4 R_f4 := .of tt_f4
def con_f4 : BN Tryz.prog :=
 CY 31 J_f4 S_f4 D_f4 2 0 [sh_TPg, sh_TSt] (lk mxk (lbc ok_f4_15 rfl (lbc ok_f4_14 rfl (lbc ok_f4_8 rfl (lbc ok_f4_6 rfl lbn)))) sd_f4)
abbrev X_f1y : Type := (Sl Int) × (Sl Int)
abbrev R_f1y : Type := Bool
def J_f1y : BT Tryz.prog :=
 Bg Tryz.prog Tryz.f29 26 [] [] [] [] [.any] [] [] R_f1y [] fun y => [V.bool y]
def S_f1y : AR :=
 Aq Tryz.f29 2 0 X_f1y (fun x => [BL x.1, BL x.2]) fun l => (Bi (at_ l 0), Bi (at_ l 1))
structure X_f1y_4 where
 K8 : (Sl Int)
 L2 : (Sl Int)
 EF : Int
def S_f1y_4 : AR :=
 Ai Tryz.f29 4 [(0, BU), (1, BU), (5, .any)] [] [] X_f1y_4 (fun x => [BL x.K8, BL x.L2, (V.int .i64) x.EF]) fun l => ⟨Bi (at_ l 0), Bi (at_ l 1), dI (at_ l 2)⟩
def tt_f1y_4 (D_f1y_4 : AS X_f1y_4 R_f1y) (x : X_f1y_4) : TT Tryz.prog R_f1y :=
 (.ite (B8 x.EF ((x.K8.n : Nat) : Int))
 (.need (BQ x.EF x.K8.n) <|
 (.need (BQ x.EF x.L2.n) <|
 (.ite (!(Ae (x.K8.get (Int.toNat x.EF)) (x.L2.get (Int.toNat x.EF))))
 (.ret false)
 (.Ab S_f1y_4 D_f1y_4 (X_f1y_4.mk x.K8 x.L2 (IntKind.i64.wrap (x.EF + 1)))))))
 (.ret true))
theorem sd_f1y_4 (D_f1y_4 : AS X_f1y_4 R_f1y) (x : X_f1y_4) : (tt_f1y_4 D_f1y_4 x).AJ :=
 (TT.sI (TT.sN (TT.sN (TT.sI TT.sR TT.sJ))) TT.sR)
def D_f1y_4 : AS X_f1y_4 R_f1y := AS.loop tt_f1y_4
theorem ok_f1y_4 : AX J_f1y S_f1y_4 D_f1y_4 :=
 BG fun D_f1y_4 h_4 => lk mxk (lbc h_4 rfl lbn) (sd_f1y_4 D_f1y_4)
def tt_f1y (x : X_f1y) : TT Tryz.prog R_f1y :=
 (.ite (!(Ae ((x.fst.n : Nat) : Int) ((x.snd.n : Nat) : Int)))
 (.ret false)
 (.Ab S_f1y_4 D_f1y_4 (X_f1y_4.mk x.fst x.snd 0)))
theorem sd_f1y (x : X_f1y) : (tt_f1y x).AJ :=
 (TT.sI TT.sR TT.sJ)
def D_f1y : AS X_f1y R_f1y := .of tt_f1y
def con_f1y : BN Tryz.prog :=
 CY 29 J_f1y S_f1y D_f1y 2 0 [BU, BU] (lk mxk (lbc ok_f1y_4 rfl lbn) sd_f1y)
abbrev X_f3e : Type := TTh × TTh
abbrev R_f3e : Type := Bool
def J_f3e : BT Tryz.prog :=
 Bg Tryz.prog Tryz.f44 52 [(2, 3), (3, 3)] [] [] [] [.any] [] [con_f1y] R_f3e [] fun y => [V.bool y]
def S_f3e : AR :=
 Aq Tryz.f44 2 0 X_f3e (fun x => [e_TTh x.1, e_TTh x.2]) fun l => (d_TTh (at_ l 0), d_TTh (at_ l 1))
def tt_f3e (x : X_f3e) : TT Tryz.prog R_f3e :=
 (.ite (Ae x.fst.At x.snd.At)
 (.ite (Ae x.fst.Phase x.snd.Phase)
 (.ite (Ae x.fst.Ring x.snd.Ring)
 (.ite (Ae x.fst.Status x.snd.Status)
 (.ite (Ae x.fst.AG x.snd.AG)
 (.ite ((Ae (x.fst.Ao 0) (x.snd.Ao 0)) && ((Ae (x.fst.Ao 1) (x.snd.Ao 1)) && ((Ae (x.fst.Ao 2) (x.snd.Ao 2)) && ((Ae (x.fst.Ao 3) (x.snd.Ao 3)) && ((Ae (x.fst.Ao 4) (x.snd.Ao 4)) && ((Ae (x.fst.Ao 5) (x.snd.Ao 5)) && ((Ae (x.fst.Ao 6) (x.snd.Ao 6)) && ((Ae (x.fst.Ao 7) (x.snd.Ao 7)) && true))))))))
 (.call con_f1y (x.fst.Seen, x.snd.Seen) fun (y1 : R_f1y) =>
 (.ret y1))
 (.ret false))
 (.ret false))
 (.ret false))
 (.ret false))
 (.ret false))
 (.ret false))
theorem sd_f3e (x : X_f3e) : (tt_f3e x).AJ :=
 (TT.sI (TT.sI (TT.sI (TT.sI (TT.sI (TT.sI (TT.sC fun _ => TT.sR) TT.sR) TT.sR) TT.sR) TT.sR) TT.sR) TT.sR)
def D_f3e : AS X_f3e R_f3e := .of tt_f3e
def con_f3e : BN Tryz.prog :=
 CY 44 J_f3e S_f3e D_f3e 2 0 [sh_TTh, sh_TTh] (lk mxk lbn sd_f3e)
abbrev X_f1z : Type := (Sl TSo) × (Sl TSo)
abbrev R_f1z : Type := Bool
def J_f1z : BT Tryz.prog :=
 Bg Tryz.prog Tryz.f83 26 [] [] [] [] [.any] [] [] R_f1z [] fun y => [V.bool y]
def S_f1z : AR :=
 Aq Tryz.f83 2 0 X_f1z (fun x => [esl_TSo x.1, esl_TSo x.2]) fun l => (dsl_TSo (at_ l 0), dsl_TSo (at_ l 1))
structure X_f1z_4 where
 K8 : (Sl TSo)
 L2 : (Sl TSo)
 EF : Int
def S_f1z_4 : AR :=
 Ai Tryz.f83 4 [(0, hsl_TSo), (1, hsl_TSo), (5, .any)] [] [] X_f1z_4 (fun x => [esl_TSo x.K8, esl_TSo x.L2, (V.int .i64) x.EF]) fun l => ⟨dsl_TSo (at_ l 0), dsl_TSo (at_ l 1), dI (at_ l 2)⟩
def tt_f1z_4 (D_f1z_4 : AS X_f1z_4 R_f1z) (x : X_f1z_4) : TT Tryz.prog R_f1z :=
 (.ite (B8 x.EF ((x.K8.n : Nat) : Int))
 (.need (BQ x.EF x.K8.n) <|
 (.need (BQ x.EF x.L2.n) <|
 (.ite (!((Ae (x.K8.get (Int.toNat x.EF)).AQ (x.L2.get (Int.toNat x.EF)).AQ) && ((Ae (x.K8.get (Int.toNat x.EF)).Value (x.L2.get (Int.toNat x.EF)).Value) && ((Ae (x.K8.get (Int.toNat x.EF)).Left (x.L2.get (Int.toNat x.EF)).Left) && true))))
 (.ret false)
 (.Ab S_f1z_4 D_f1z_4 (X_f1z_4.mk x.K8 x.L2 (IntKind.i64.wrap (x.EF + 1)))))))
 (.ret true))
theorem sd_f1z_4 (D_f1z_4 : AS X_f1z_4 R_f1z) (x : X_f1z_4) : (tt_f1z_4 D_f1z_4 x).AJ :=
 (TT.sI (TT.sN (TT.sN (TT.sI TT.sR TT.sJ))) TT.sR)
def D_f1z_4 : AS X_f1z_4 R_f1z := AS.loop tt_f1z_4
theorem ok_f1z_4 : AX J_f1z S_f1z_4 D_f1z_4 :=
 BG fun D_f1z_4 h_4 => lk mxk (lbc h_4 rfl lbn) (sd_f1z_4 D_f1z_4)
def tt_f1z (x : X_f1z) : TT Tryz.prog R_f1z :=
 (.ite (!(Ae ((x.fst.n : Nat) : Int) ((x.snd.n : Nat) : Int)))
 (.ret false)
 (.Ab S_f1z_4 D_f1z_4 (X_f1z_4.mk x.fst x.snd 0)))
theorem sd_f1z (x : X_f1z) : (tt_f1z x).AJ :=
 (TT.sI TT.sR TT.sJ)
def D_f1z : AS X_f1z R_f1z := .of tt_f1z
def con_f1z : BN Tryz.prog :=
 CY 83 J_f1z S_f1z D_f1z 2 0 [hsl_TSo, hsl_TSo] (lk mxk (lbc ok_f1z_4 rfl lbn) sd_f1z)
abbrev X_f19 : Type := TRs × TRs
abbrev R_f19 : Type := Bool
def J_f19 : BT Tryz.prog :=
 Bg Tryz.prog Tryz.f45 53 [(2, 3), (3, 3)] [] [] [] [.any] [] [con_f1z] R_f19 [] fun y => [V.bool y]
def S_f19 : AR :=
 Aq Tryz.f45 2 0 X_f19 (fun x => [e_TRs x.1, e_TRs x.2]) fun l => (d_TRs (at_ l 0), d_TRs (at_ l 1))
structure X_f19_3 where
 FM : TRs
 Jx : TRs
def S_f19_3 : AR :=
 Ai Tryz.f45 3 (an [2, 3]) [] [] X_f19_3 (fun x => [(DO e_TRs) x.FM, (DO e_TRs) x.Jx]) fun l => ⟨(DP d_TRs) (at_ l 0), (DP d_TRs) (at_ l 1)⟩
structure X_f19_4 where
 FM : TRs
 Jx : TRs
 EF : Int
def S_f19_4 : AR :=
 Ai Tryz.f45 4 (an [2, 3, 5]) [] [] X_f19_4 (fun x => [(DO e_TRs) x.FM, (DO e_TRs) x.Jx, (V.int .i64) x.EF]) fun l => ⟨(DP d_TRs) (at_ l 0), (DP d_TRs) (at_ l 1), dI (at_ l 2)⟩
def tt_f19_4 (D_f19_4 : AS X_f19_4 R_f19) (x : X_f19_4) : TT Tryz.prog R_f19 :=
 (.ite (B8 x.EF ((x.FM.Aj.n : Nat) : Int))
 (.need (BQ x.EF x.FM.Aj.n) <|
 (.need (BQ x.EF x.Jx.Aj.n) <|
 (.ite (!(Ae (x.FM.Aj.get (Int.toNat x.EF)) (x.Jx.Aj.get (Int.toNat x.EF))))
 (.ret false)
 (.Ab S_f19_4 D_f19_4 (X_f19_4.mk x.FM x.Jx (IntKind.i64.wrap (x.EF + 1)))))))
 (.ret true))
theorem sd_f19_4 (D_f19_4 : AS X_f19_4 R_f19) (x : X_f19_4) : (tt_f19_4 D_f19_4 x).AJ :=
 (TT.sI (TT.sN (TT.sN (TT.sI TT.sR TT.sJ))) TT.sR)
def D_f19_4 : AS X_f19_4 R_f19 := AS.loop tt_f19_4
theorem ok_f19_4 : AX J_f19 S_f19_4 D_f19_4 :=
 BG fun D_f19_4 h_4 => lk mxk (lbc h_4 rfl lbn) (sd_f19_4 D_f19_4)
def tt_f19_3 (x : X_f19_3) : TT Tryz.prog R_f19 :=
 (.Ab S_f19_4 D_f19_4 (X_f19_4.mk x.FM x.Jx 0))
theorem sd_f19_3 (x : X_f19_3) : (tt_f19_3 x).AJ :=
 TT.sJ
def D_f19_3 : AS X_f19_3 R_f19 := .of tt_f19_3
theorem ok_f19_3 : AX J_f19 S_f19_3 D_f19_3 :=
 lk mxk (lbc ok_f19_4 rfl lbn) sd_f19_3
def tt_f19 (x : X_f19) : TT Tryz.prog R_f19 :=
 (.ite (!(Ae x.fst.A6 x.snd.A6))
 (.ret false)
 (.ite (!(x.fst.Bj == x.snd.Bj))
 (.ret false)
 (.ite (!(Ae ((x.fst.Aj.n : Nat) : Int) ((x.snd.Aj.n : Nat) : Int)))
 (.ret false)
 (.call con_f1z (x.fst.A4, x.snd.A4) fun (y1 : R_f1z) =>
 (.ite (!y1)
 (.ret false)
 (.Ab S_f19_3 D_f19_3 (X_f19_3.mk x.fst x.snd)))))))
theorem sd_f19 (x : X_f19) : (tt_f19 x).AJ :=
 (TT.sI TT.sR (TT.sI TT.sR (TT.sI TT.sR (TT.sC fun _ => (TT.sI TT.sR TT.sJ)))))
def D_f19 : AS X_f19 R_f19 := .of tt_f19
def con_f19 : BN Tryz.prog :=
 CY 45 J_f19 S_f19 D_f19 2 0 [sh_TRs, sh_TRs] (lk mxk (lbc ok_f19_4 rfl (lbc ok_f19_3 rfl lbn)) sd_f19)
abbrev X_fi : Type := TSt × TSt
abbrev R_fi : Type := Bool
def J_fi : BT Tryz.prog :=
 Bg Tryz.prog Tryz.f16 82 [(2, 3), (3, 3)] [] [] [] [.any] [] [con_f19, con_f3e] R_fi [] fun y => [V.bool y]
def S_fi : AR :=
 Aq Tryz.f16 2 0 X_fi (fun x => [e_TSt x.1, e_TSt x.2]) fun l => (d_TSt (at_ l 0), d_TSt (at_ l 1))
structure X_fi_3 where
 FM : TSt
 Jx : TSt
def S_fi_3 : AR :=
 Ai Tryz.f16 3 (an [2, 3]) [] [] X_fi_3 (fun x => [(DO e_TSt) x.FM, (DO e_TSt) x.Jx]) fun l => ⟨(DP d_TSt) (at_ l 0), (DP d_TSt) (at_ l 1)⟩
structure X_fi_4 where
 FM : TSt
 Jx : TSt
 EF : Int
def S_fi_4 : AR :=
 Ai Tryz.f16 4 (an [2, 3, 5]) [] [] X_fi_4 (fun x => [(DO e_TSt) x.FM, (DO e_TSt) x.Jx, (V.int .i64) x.EF]) fun l => ⟨(DP d_TSt) (at_ l 0), (DP d_TSt) (at_ l 1), dI (at_ l 2)⟩
structure X_fi_8 where
 FM : TSt
 Jx : TSt
def S_fi_8 : AR :=
 Ai Tryz.f16 8 (an [2, 3]) [] [] X_fi_8 (fun x => [(DO e_TSt) x.FM, (DO e_TSt) x.Jx]) fun l => ⟨(DP d_TSt) (at_ l 0), (DP d_TSt) (at_ l 1)⟩
structure X_fi_9 where
 FM : TSt
 Jx : TSt
 N5 : Int
def S_fi_9 : AR :=
 Ai Tryz.f16 9 (an [2, 3, 6]) [] [] X_fi_9 (fun x => [(DO e_TSt) x.FM, (DO e_TSt) x.Jx, (V.int .i64) x.N5]) fun l => ⟨(DP d_TSt) (at_ l 0), (DP d_TSt) (at_ l 1), dI (at_ l 2)⟩
def tt_fi_9 (D_fi_9 : AS X_fi_9 R_fi) (x : X_fi_9) : TT Tryz.prog R_fi :=
 (.ite (B8 x.N5 ((x.FM.AF.n : Nat) : Int))
 (.need (BQ x.N5 x.FM.AF.n) <|
 (.need (BQ x.N5 x.Jx.AF.n) <|
 (.call con_f19 ((x.FM.AF.get (Int.toNat x.N5)), (x.Jx.AF.get (Int.toNat x.N5))) fun (y2 : R_f19) =>
 (.ite (!y2)
 (.ret false)
 (.Ab S_fi_9 D_fi_9 (X_fi_9.mk x.FM x.Jx (IntKind.i64.wrap (x.N5 + 1))))))))
 (.ret true))
theorem sd_fi_9 (D_fi_9 : AS X_fi_9 R_fi) (x : X_fi_9) : (tt_fi_9 D_fi_9 x).AJ :=
 (TT.sI (TT.sN (TT.sN (TT.sC fun _ => (TT.sI TT.sR TT.sJ)))) TT.sR)
def D_fi_9 : AS X_fi_9 R_fi := AS.loop tt_fi_9
theorem ok_fi_9 : AX J_fi S_fi_9 D_fi_9 :=
 BG fun D_fi_9 h_9 => lk mxk (lbc h_9 rfl lbn) (sd_fi_9 D_fi_9)
def tt_fi_8 (x : X_fi_8) : TT Tryz.prog R_fi :=
 (.Ab S_fi_9 D_fi_9 (X_fi_9.mk x.FM x.Jx 0))
theorem sd_fi_8 (x : X_fi_8) : (tt_fi_8 x).AJ :=
 TT.sJ
def D_fi_8 : AS X_fi_8 R_fi := .of tt_fi_8
theorem ok_fi_8 : AX J_fi S_fi_8 D_fi_8 :=
 lk mxk (lbc ok_fi_9 rfl lbn) sd_fi_8
def tt_fi_4 (D_fi_4 : AS X_fi_4 R_fi) (x : X_fi_4) : TT Tryz.prog R_fi :=
 (.ite (B8 x.EF ((x.FM.AB.n : Nat) : Int))
 (.need (BQ x.EF x.FM.AB.n) <|
 (.need (BQ x.EF x.Jx.AB.n) <|
 (.call con_f3e ((x.FM.AB.get (Int.toNat x.EF)), (x.Jx.AB.get (Int.toNat x.EF))) fun (y2 : R_f3e) =>
 (.ite (!y2)
 (.ret false)
 (.Ab S_fi_4 D_fi_4 (X_fi_4.mk x.FM x.Jx (IntKind.i64.wrap (x.EF + 1))))))))
 (.Ab S_fi_8 D_fi_8 (X_fi_8.mk x.FM x.Jx)))
theorem sd_fi_4 (D_fi_4 : AS X_fi_4 R_fi) (x : X_fi_4) : (tt_fi_4 D_fi_4 x).AJ :=
 (TT.sI (TT.sN (TT.sN (TT.sC fun _ => (TT.sI TT.sR TT.sJ)))) TT.sJ)
def D_fi_4 : AS X_fi_4 R_fi := AS.loop tt_fi_4
theorem ok_fi_4 : AX J_fi S_fi_4 D_fi_4 :=
 BG fun D_fi_4 h_4 => lk mxk (lbc h_4 rfl (lbc ok_fi_9 rfl (lbc ok_fi_8 rfl lbn))) (sd_fi_4 D_fi_4)
def tt_fi_3 (x : X_fi_3) : TT Tryz.prog R_fi :=
 (.Ab S_fi_4 D_fi_4 (X_fi_4.mk x.FM x.Jx 0))
theorem sd_fi_3 (x : X_fi_3) : (tt_fi_3 x).AJ :=
 TT.sJ
def D_fi_3 : AS X_fi_3 R_fi := .of tt_fi_3
theorem ok_fi_3 : AX J_fi S_fi_3 D_fi_3 :=
 lk mxk (lbc ok_fi_9 rfl (lbc ok_fi_8 rfl (lbc ok_fi_4 rfl lbn))) sd_fi_3
def tt_fi (x : X_fi) : TT Tryz.prog R_fi :=
 (.ite (!(Ae ((x.fst.AB.n : Nat) : Int) ((x.snd.AB.n : Nat) : Int)))
 (.ret false)
 (.ite (!(Ae ((x.fst.AF.n : Nat) : Int) ((x.snd.AF.n : Nat) : Int)))
 (.ret false)
 (.ite (!(Ae x.fst.ED x.snd.ED))
 (.ret false)
 (.ite (!(Ae x.fst.Reads x.snd.Reads))
 (.ret false)
 (.ite (!(x.fst.Bt == x.snd.Bt))
 (.ret false)
 (.Ab S_fi_3 D_fi_3 (X_fi_3.mk x.fst x.snd)))))))
theorem sd_fi (x : X_fi) : (tt_fi x).AJ :=
 (TT.sI TT.sR (TT.sI TT.sR (TT.sI TT.sR (TT.sI TT.sR (TT.sI TT.sR TT.sJ)))))
def D_fi : AS X_fi R_fi := .of tt_fi
def con_fi : BN Tryz.prog :=
 CY 16 J_fi S_fi D_fi 2 0 [sh_TSt, sh_TSt] (lk mxk (lbc ok_fi_9 rfl (lbc ok_fi_8 rfl (lbc ok_fi_4 rfl (lbc ok_fi_3 rfl lbn)))) sd_fi)
abbrev X_f3i : Type := TPg × (Sl AU) × (Sl AU)
abbrev R_f3i : Type := Bool
def J_f3i : BT Tryz.prog :=
 Bg Tryz.prog Tryz.f9 83 [(3, 3), (34, 1), (36, 1), (40, 1), (55, 1), (64, 1), (70, 1), (78, 1)] [(5, [.open_ 9])] [] [] [.any] [] [con_f1, con_f4, con_fi, con_f2v, con_f3g, con_f28, con_fc, con_f2q] R_f3i [] fun y => [V.bool y]
def S_f3i : AR :=
 Aq Tryz.f9 3 0 X_f3i (fun x => [e_TPg x.1, A5 x.2.1, A5 x.2.2]) fun l => (d_TPg (at_ l 0), Bc (at_ l 1), Bc (at_ l 2))
structure X_f3i_3 where
 VS : (Sl AU)
 VM : (Sl AU)
 Qh : TPg
def S_f3i_3 : AR :=
 Ai Tryz.f9 3 [(1, CJ), (2, CJ), (3, .any)] [] [] X_f3i_3 (fun x => [A5 x.VS, A5 x.VM, (DO e_TPg) x.Qh]) fun l => ⟨Bc (at_ l 0), Bc (at_ l 1), (DP d_TPg) (at_ l 2)⟩
structure X_f3i_8 where
 VM : (Sl AU)
 C1 : Int
 VU : Int
 IV : AY
 VR : TFa
def S_f3i_8 : AR :=
 Ai Tryz.f9 8 [(2, CJ), (7, .any), (9, .any), (51, .any), (52, .any)] [] [(.loc 7 0, A2), (.loc 9 1, sh_TFa)] X_f3i_8 (fun x => [A5 x.VM, (V.ptr (.loc 7 0) []), (V.ptr (.loc 9 1) []), (V.int .i64) x.C1, (V.int .i64) x.VU, A3 x.IV, e_TFa x.VR]) fun l => ⟨Bc (at_ l 0), dI (at_ l 3), dI (at_ l 4), A1 (at_ l 5), d_TFa (at_ l 6)⟩
structure X_f3i_14 where
 VM : (Sl AU)
 IV : AY
 VR : TFa
def S_f3i_14 : AR :=
 Ai Tryz.f9 14 [(2, CJ), (7, .any), (9, .any)] [] [(.loc 7 0, A2), (.loc 9 1, sh_TFa)] X_f3i_14 (fun x => [A5 x.VM, (V.ptr (.loc 7 0) []), (V.ptr (.loc 9 1) []), A3 x.IV, e_TFa x.VR]) fun l => ⟨Bc (at_ l 0), A1 (at_ l 3), d_TFa (at_ l 4)⟩
structure X_f3i_15 where
 VV : (Sl AU)
 VW : Int
 VT : Int
 IV : AY
 VR : TFa
def S_f3i_15 : AR :=
 Ai Tryz.f9 15 [(7, .any), (9, .any), (64, CJ), (65, .any), (66, .any)] [] [(.loc 7 0, A2), (.loc 9 1, sh_TFa)] X_f3i_15 (fun x => [(V.ptr (.loc 7 0) []), (V.ptr (.loc 9 1) []), A5 x.VV, (V.int .i64) x.VW, (V.int .i64) x.VT, A3 x.IV, e_TFa x.VR]) fun l => ⟨Bc (at_ l 2), dI (at_ l 3), dI (at_ l 4), A1 (at_ l 5), d_TFa (at_ l 6)⟩
structure X_f3i_21 where
 IV : AY
 VR : TFa
def S_f3i_21 : AR :=
 Ai Tryz.f9 21 (an [7, 9]) [] [(.loc 7 0, A2), (.loc 9 1, sh_TFa)] X_f3i_21 (fun x => [(V.ptr (.loc 7 0) []), (V.ptr (.loc 9 1) []), A3 x.IV, e_TFa x.VR]) fun l => ⟨A1 (at_ l 2), d_TFa (at_ l 3)⟩
def tt_f3i_21 (x : X_f3i_21) : TT Tryz.prog R_f3i :=
 (.call con_f1 x.VR fun (y1 : R_f1) =>
 (.call con_fi (y1, x.IV.State) fun (y2 : R_fi) =>
 (.ret y2)))
theorem sd_f3i_21 (x : X_f3i_21) : (tt_f3i_21 x).AJ :=
 (TT.sC fun _ => (TT.sC fun _ => TT.sR))
def D_f3i_21 : AS X_f3i_21 R_f3i := .of tt_f3i_21
theorem ok_f3i_21 : AX J_f3i S_f3i_21 D_f3i_21 :=
 lk mxk lbn sd_f3i_21
def tt_f3i_15 (D_f3i_15 : AS X_f3i_15 R_f3i) (x : X_f3i_15) : TT Tryz.prog R_f3i :=
 (.ite (B8 x.VT x.VW)
 (.need (BQ x.VT x.VV.n) <|
 (.call con_f2q ((Sl.mk true 0 (fun _i2 => (0 : Int))), ((x.VV.get (Int.toNat x.VT)), x.VR)) fun (y2 : R_f2q) =>
 (.ite y2.snd.fst
 (.ret false)
 (.Ab S_f3i_15 D_f3i_15 (X_f3i_15.mk x.VV x.VW (IntKind.i64.wrap (x.VT + 1)) x.IV y2.snd.snd)))))
 (.Ab S_f3i_21 D_f3i_21 (X_f3i_21.mk x.IV x.VR)))
theorem sd_f3i_15 (D_f3i_15 : AS X_f3i_15 R_f3i) (x : X_f3i_15) : (tt_f3i_15 D_f3i_15 x).AJ :=
 (TT.sI (TT.sN (TT.sC fun _ => (TT.sI TT.sR TT.sJ))) TT.sJ)
def D_f3i_15 : AS X_f3i_15 R_f3i := AS.loop tt_f3i_15
theorem ok_f3i_15 : AX J_f3i S_f3i_15 D_f3i_15 :=
 BG fun D_f3i_15 h_15 => lk mxk (lbc h_15 rfl (lbc ok_f3i_21 rfl lbn)) (sd_f3i_15 D_f3i_15)
def tt_f3i_14 (x : X_f3i_14) : TT Tryz.prog R_f3i :=
 (.Ab S_f3i_15 D_f3i_15 (X_f3i_15.mk x.VM ((x.VM.n : Nat) : Int) 0 x.IV x.VR))
theorem sd_f3i_14 (x : X_f3i_14) : (tt_f3i_14 x).AJ :=
 TT.sJ
def D_f3i_14 : AS X_f3i_14 R_f3i := .of tt_f3i_14
theorem ok_f3i_14 : AX J_f3i S_f3i_14 D_f3i_14 :=
 lk mxk (lbc ok_f3i_21 rfl (lbc ok_f3i_15 rfl lbn)) sd_f3i_14
def tt_f3i_8 (D_f3i_8 : AS X_f3i_8 R_f3i) (x : X_f3i_8) : TT Tryz.prog R_f3i :=
 (.ite (B8 x.VU x.C1)
 (.call con_f28 ((Sl.mk true 0 (fun _i2 => (0 : Int))), ((AU.mk x.VU 0 0 true), x.VR)) fun (y2 : R_f28) =>
 (.ite y2.snd
 (.ret true)
 (.Ab S_f3i_8 D_f3i_8 (X_f3i_8.mk x.VM x.C1 (IntKind.i64.wrap (x.VU + 1)) x.IV x.VR))))
 (.Ab S_f3i_14 D_f3i_14 (X_f3i_14.mk x.VM x.IV x.VR)))
theorem sd_f3i_8 (D_f3i_8 : AS X_f3i_8 R_f3i) (x : X_f3i_8) : (tt_f3i_8 D_f3i_8 x).AJ :=
 (TT.sI (TT.sC fun _ => (TT.sI TT.sR TT.sJ)) TT.sJ)
def D_f3i_8 : AS X_f3i_8 R_f3i := AS.loop tt_f3i_8
theorem ok_f3i_8 : AX J_f3i S_f3i_8 D_f3i_8 :=
 BG fun D_f3i_8 h_8 => lk mxk (lbc h_8 rfl (lbc ok_f3i_21 rfl (lbc ok_f3i_15 rfl (lbc ok_f3i_14 rfl lbn)))) (sd_f3i_8 D_f3i_8)
def tt_f3i_3 (x : X_f3i_3) : TT Tryz.prog R_f3i :=
 (.call con_fc (x.Qh, ((Sl.mk true 0 (fun _i1 => (0 : Int))), x.VS)) fun (y1 : R_fc) =>
 (.call con_f4 (x.Qh, y1.fst.State) fun (y2 : R_f4) =>
 (.need (!y2.fst.nil) <|
 (.Ab S_f3i_8 D_f3i_8 (X_f3i_8.mk x.VM ((x.Qh.AB.n : Nat) : Int) 0 y1.fst y2.fst.x)))))
theorem sd_f3i_3 (x : X_f3i_3) : (tt_f3i_3 x).AJ :=
 (TT.sC fun _ => (TT.sC fun _ => (TT.sN TT.sJ)))
def D_f3i_3 : AS X_f3i_3 R_f3i := .of tt_f3i_3
theorem ok_f3i_3 : AX J_f3i S_f3i_3 D_f3i_3 :=
 lk mxk (lbc ok_f3i_21 rfl (lbc ok_f3i_15 rfl (lbc ok_f3i_14 rfl (lbc ok_f3i_8 rfl lbn)))) sd_f3i_3
def tt_f3i (x : X_f3i) : TT Tryz.prog R_f3i :=
 (.call con_f2v PUnit.unit fun (y1 : R_f2v) =>
 (.ite (!y1)
 (.call con_f2v PUnit.unit fun (y2 : R_f2v) =>
 (.ret y2))
 (.call con_f3g x.fst fun (y2 : R_f3g) =>
 (.ite (!y2)
 (.call con_f2v PUnit.unit fun (y3 : R_f2v) =>
 (.ret y3))
 (.ite (B8 100 (IntKind.i64.wrap (((x.snd.fst.n : Nat) : Int) + ((x.snd.snd.n : Nat) : Int))))
 (.call con_f2v PUnit.unit fun (y3 : R_f2v) =>
 (.ret y3))
 (.Ab S_f3i_3 D_f3i_3 (X_f3i_3.mk x.snd.fst x.snd.snd x.fst)))))))
theorem sd_f3i (x : X_f3i) : (tt_f3i x).AJ :=
 (TT.sC fun _ => (TT.sI (TT.sC fun _ => TT.sR) (TT.sC fun _ => (TT.sI (TT.sC fun _ => TT.sR) (TT.sI (TT.sC fun _ => TT.sR) TT.sJ)))))
def D_f3i : AS X_f3i R_f3i := .of tt_f3i
def con_f3i : BN Tryz.prog :=
 CY 9 J_f3i S_f3i D_f3i 3 0 [sh_TPg, CJ, CJ] (lk mxk (lbc ok_f3i_21 rfl (lbc ok_f3i_15 rfl (lbc ok_f3i_14 rfl (lbc ok_f3i_8 rfl (lbc ok_f3i_3 rfl lbn))))) sd_f3i)
end Go.Proofs.YtiamaibincaihaaGreat
end
