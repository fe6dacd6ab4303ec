/- What functions of the program come to, part C: no statement is proved here. -/
import Derived.Test.YtlhifcnjnmeknaaGreatDoorGB
noncomputable section
namespace Go.Proofs.YtlhifcnjnmeknaaGreatDoor
open Go Go.Vm Go.Proofs
set_option maxRecDepth 100000
set_option maxHeartbeats 4000000
abbrev X_f1t : Type := TPg × Int
abbrev R_f1t : Type := Bool
def J_f1t : A9 Tryz.prog :=
 BF Tryz.prog Tryz.f12 43 [(2, 3)] [] [] [] [.any] [] [] R_f1t [] fun y => [V.bool y]
def S_f1t : AM :=
 Ae Tryz.f12 2 0 X_f1t (fun x => [e_TPg x.1, (V.int .i64) x.2]) fun l => (d_TPg (at_ l 0), dI (at_ l 1))
structure X_f1t_3 where
 Gn : Int
 KS : TPg
def S_f1t_3 : AM :=
 Ad Tryz.f12 3 (an [1, 2]) [] [] X_f1t_3 (fun x => [(V.int .i64) x.Gn, (CR e_TPg) x.KS]) fun l => ⟨dI (at_ l 0), (CS d_TPg) (at_ l 1)⟩
structure X_f1t_5 where
 Gn : Int
 KS : TPg
 n_5 : Int
 Oa : Int
def S_f1t_5 : AM :=
 Ad Tryz.f12 5 (an [1, 2, 5, 6]) [] [] X_f1t_5 (fun x => [(V.int .i64) x.Gn, (CR e_TPg) x.KS, (V.int .i64) x.n_5, (V.int .i64) x.Oa]) fun l => ⟨dI (at_ l 0), (CS d_TPg) (at_ l 1), dI (at_ l 2), dI (at_ l 3)⟩
def tt_f1t_5 (D_f1t_5 : AQ X_f1t_5 R_f1t) (x : X_f1t_5) : TT Tryz.prog R_f1t :=
 (.ite (BS x.Oa ((x.KS.AB.n : Nat) : Int))
 (.need (A0 x.Oa x.KS.AB.n) <|
 (.ite (BS x.Gn (((x.KS.AB.get (Int.toNat x.Oa)).n : Nat) : Int))
 (.ret false)
 (.need (A0 x.Oa x.KS.AB.n) <|
 (.jump S_f1t_5 D_f1t_5 (X_f1t_5.mk x.Gn x.KS (IntKind.i64.wrap (x.n_5 + (((x.KS.AB.get (Int.toNat x.Oa)).n : Nat) : Int))) (IntKind.i64.wrap (x.Oa + 1)))))))
 (.ret (Bd x.n_5 x.Gn)))
theorem sd_f1t_5 (D_f1t_5 : AQ X_f1t_5 R_f1t) (x : X_f1t_5) : (tt_f1t_5 D_f1t_5 x).AH :=
 (TT.sI (TT.sN (TT.sI TT.sR (TT.sN TT.sJ))) TT.sR)
def D_f1t_5 : AQ X_f1t_5 R_f1t := AQ.loop tt_f1t_5
theorem ok_f1t_5 : AV J_f1t S_f1t_5 D_f1t_5 :=
 Az fun D_f1t_5 h_5 => lk mxk (lbc h_5 rfl lbn) (sd_f1t_5 D_f1t_5)
def tt_f1t_3 (x : X_f1t_3) : TT Tryz.prog R_f1t :=
 (.jump S_f1t_5 D_f1t_5 (X_f1t_5.mk x.Gn x.KS 0 0))
theorem sd_f1t_3 (x : X_f1t_3) : (tt_f1t_3 x).AH :=
 TT.sJ
def D_f1t_3 : AQ X_f1t_3 R_f1t := .of tt_f1t_3
theorem ok_f1t_3 : AV J_f1t S_f1t_3 D_f1t_3 :=
 lk mxk (lbc ok_f1t_5 rfl lbn) sd_f1t_3
def tt_f1t (x : X_f1t) : TT Tryz.prog R_f1t :=
 (.ite (BS 10 ((x.fst.AJ.n : Nat) : Int))
 (.ret false)
 (.ite (BS 10 ((x.fst.AB.n : Nat) : Int))
 (.ret false)
 (.jump S_f1t_3 D_f1t_3 (X_f1t_3.mk x.snd x.fst))))
theorem sd_f1t (x : X_f1t) : (tt_f1t x).AH :=
 (TT.sI TT.sR (TT.sI TT.sR TT.sJ))
def D_f1t : AQ X_f1t R_f1t := .of tt_f1t
def con_f1t : A3 Tryz.prog :=
 BZ 12 J_f1t S_f1t D_f1t 2 0 [sh_TPg, .any] (lk mxk (lbc ok_f1t_5 rfl (lbc ok_f1t_3 rfl lbn)) sd_f1t)
abbrev X_f48 : Type := TRg
abbrev R_f48 : Type := Bool
def J_f48 : A9 Tryz.prog :=
 BF Tryz.prog Tryz.f115 36 [(1, 3)] [] [] [] [.any] [] [] R_f48 [] fun y => [V.bool y]
def S_f48 : AM :=
 Ae Tryz.f115 1 0 X_f48 (fun x => [e_TRg x]) fun l => (d_TRg (at_ l 0))
def tt_f48 (x : X_f48) : TT Tryz.prog R_f48 :=
 (.ite (Bd 1 x.Cn)
 (.ite (Bd x.Cn 64)
 (.ite (AX x.Kind 1)
 (.ite (AX x.AU 1)
 (.ret true)
 (.ite (AX x.Kind 2)
 (.ite (Bd 1 x.AU)
 (.ret (Bd x.AU 8))
 (.ret false))
 (.ret false)))
 (.ite (AX x.Kind 2)
 (.ite (Bd 1 x.AU)
 (.ret (Bd x.AU 8))
 (.ret false))
 (.ret false)))
 (.ret false))
 (.ret false))
theorem sd_f48 (x : X_f48) : (tt_f48 x).AH :=
 (TT.sI (TT.sI (TT.sI (TT.sI TT.sR (TT.sI (TT.sI TT.sR TT.sR) TT.sR)) (TT.sI (TT.sI TT.sR TT.sR) TT.sR)) TT.sR) TT.sR)
def D_f48 : AQ X_f48 R_f48 := .of tt_f48
def con_f48 : A3 Tryz.prog :=
 BZ 115 J_f48 S_f48 D_f48 1 0 [.any] (lk mxk lbn sd_f48)
abbrev X_f49 : Type := Int
abbrev R_f49 : Type := ByteArray
def J_f49 : A9 Tryz.prog :=
 BF Tryz.prog Tryz.f153 53 [] [] [] [] [.any] [] [] R_f49 [] fun y => [V.str y]
def S_f49 : AM :=
 Ae Tryz.f153 1 0 X_f49 (fun x => [(V.int .i64) x]) fun l => (dI (at_ l 0))
def tt_f49 (x : X_f49) : TT Tryz.prog R_f49 :=
 (.ite (AX x 1)
 (.ret (ByteArray.mk #[114, 48, 48, 48, 110]))
 (.ite (AX x 2)
 (.ret (ByteArray.mk #[114, 114, 48, 48, 48]))
 (.ite (AX x 23)
 (.ret (ByteArray.mk #[114, 114, 48, 48, 48]))
 (.ite (Bd 3 x)
 (.ite (Bd x 14)
 (.ret (ByteArray.mk #[114, 114, 114, 48, 48]))
 (.ite (AX x 15)
 (.ret (ByteArray.mk #[48, 48, 48, 48, 112]))
 (.ite (AX x 16)
 (.ret (ByteArray.mk #[114, 48, 48, 48, 112]))
 (.ite (AX x 17)
 (.ret (ByteArray.mk #[114, 48, 48, 48, 112]))
 (.ite (AX x 18)
 (.ret (ByteArray.mk #[114, 114, 103, 109, 48]))
 (.ite (AX x 19)
 (.ret (ByteArray.mk #[114, 114, 103, 109, 100]))
 (.ite (AX x 20)
 (.ret (ByteArray.mk #[48, 48, 103, 48, 48]))
 (.ite (AX x 21)
 (.ret (ByteArray.mk #[114, 48, 48, 48, 48]))
 (.ite (AX x 22)
 (.ret (ByteArray.mk #[114, 48, 48, 48, 48]))
 (.ite (AX x 24)
 (.ret (ByteArray.mk #[114, 48, 48, 48, 48]))
 (.ite (AX x 25)
 (.ret (ByteArray.mk #[48, 48, 48, 48, 48]))
 (.ret (ByteArray.mk #[])))))))))))))
 (.ite (AX x 15)
 (.ret (ByteArray.mk #[48, 48, 48, 48, 112]))
 (.ite (AX x 16)
 (.ret (ByteArray.mk #[114, 48, 48, 48, 112]))
 (.ite (AX x 17)
 (.ret (ByteArray.mk #[114, 48, 48, 48, 112]))
 (.ite (AX x 18)
 (.ret (ByteArray.mk #[114, 114, 103, 109, 48]))
 (.ite (AX x 19)
 (.ret (ByteArray.mk #[114, 114, 103, 109, 100]))
 (.ite (AX x 20)
 (.ret (ByteArray.mk #[48, 48, 103, 48, 48]))
 (.ite (AX x 21)
 (.ret (ByteArray.mk #[114, 48, 48, 48, 48]))
 (.ite (AX x 22)
 (.ret (ByteArray.mk #[114, 48, 48, 48, 48]))
 (.ite (AX x 24)
 (.ret (ByteArray.mk #[114, 48, 48, 48, 48]))
 (.ite (AX x 25)
 (.ret (ByteArray.mk #[48, 48, 48, 48, 48]))
 (.ret (ByteArray.mk #[]))))))))))))))))
theorem sd_f49 (x : X_f49) : (tt_f49 x).AH :=
 (TT.sI TT.sR (TT.sI TT.sR (TT.sI TT.sR (TT.sI (TT.sI TT.sR (TT.sI TT.sR (TT.sI TT.sR (TT.sI TT.sR (TT.sI TT.sR (TT.sI TT.sR (TT.sI TT.sR (TT.sI TT.sR (TT.sI TT.sR (TT.sI TT.sR (TT.sI TT.sR TT.sR))))))))))) (TT.sI TT.sR (TT.sI TT.sR (TT.sI TT.sR (TT.sI TT.sR (TT.sI TT.sR (TT.sI TT.sR (TT.sI TT.sR (TT.sI TT.sR (TT.sI TT.sR (TT.sI TT.sR TT.sR))))))))))))))
def D_f49 : AQ X_f49 R_f49 := .of tt_f49
def con_f49 : A3 Tryz.prog :=
 BZ 153 J_f49 S_f49 D_f49 1 0 [.any] (lk mxk lbn sd_f49)
abbrev X_f44 : Type := Int
abbrev R_f44 : Type := Int
def J_f44 : A9 Tryz.prog :=
 BF Tryz.prog Tryz.f154 14 [] [] [] [] [.any] [] [] R_f44 [] fun y => [(V.int .u64) y]
def S_f44 : AM :=
 Ae Tryz.f154 1 0 X_f44 (fun x => [(V.int .u8) x]) fun l => (dI (at_ l 0))
def tt_f44 (x : X_f44) : TT Tryz.prog R_f44 :=
 (.ite (AX x 114)
 (.ret 7)
 (.ite (AX x 103)
 (.ret 7)
 (.ite (AX x 100)
 (.ret 7)
 (.ite (AX x 109)
 (.ret 2)
 (.ite (AX x 112)
 (.ret 256)
 (.ite (AX x 110)
 (.ret 18446744073709551615)
 (.ret 0)))))))
theorem sd_f44 (x : X_f44) : (tt_f44 x).AH :=
 (TT.sI TT.sR (TT.sI TT.sR (TT.sI TT.sR (TT.sI TT.sR (TT.sI TT.sR (TT.sI TT.sR TT.sR))))))
def D_f44 : AQ X_f44 R_f44 := .of tt_f44
def con_f44 : A3 Tryz.prog :=
 BZ 154 J_f44 S_f44 D_f44 1 0 [.any] (lk mxk lbn sd_f44)
abbrev X_fl : Type := TIn
abbrev R_fl : Type := Bool
def J_fl : A9 Tryz.prog :=
 BF Tryz.prog Tryz.f116 49 [(1, 3)] [] [] [] [.any] [] [con_f49, con_f44] R_fl [] fun y => [V.bool y]
def S_fl : AM :=
 Ae Tryz.f116 1 0 X_fl (fun x => [e_TIn x]) fun l => (d_TIn (at_ l 0))
structure X_fl_4 where
 Ff : TIn
 Mq : ByteArray
def S_fl_4 : AM :=
 Ad Tryz.f116 4 (an [1, 3]) [] [] X_fl_4 (fun x => [(CR e_TIn) x.Ff, V.str x.Mq]) fun l => ⟨(CS d_TIn) (at_ l 0), dS (at_ l 1)⟩
structure X_fl_6 where
 Mq : ByteArray
 Te : (Sl Int)
 RJ : Int
def S_fl_6 : AM :=
 Ad Tryz.f116 6 [(3, .any), (4, Dc), (5, .any)] [] [] X_fl_6 (fun x => [V.str x.Mq, DD x.Te, (V.int .i64) x.RJ]) fun l => ⟨dS (at_ l 0), EV (at_ l 1), dI (at_ l 2)⟩
structure X_fl_7 where
 Mq : ByteArray
 Te : (Sl Int)
 RJ : Int
def S_fl_7 : AM :=
 Ad Tryz.f116 7 [(3, .any), (4, Dc), (5, .any)] [] [] X_fl_7 (fun x => [V.str x.Mq, DD x.Te, (V.int .i64) x.RJ]) fun l => ⟨dS (at_ l 0), EV (at_ l 1), dI (at_ l 2)⟩
def tt_fl_7 (D_fl_6 : AQ X_fl_6 R_fl) (x : X_fl_7) : TT Tryz.prog R_fl :=
 (.jump S_fl_6 D_fl_6 (X_fl_6.mk x.Mq x.Te (IntKind.i64.wrap (x.RJ + 1))))
theorem sd_fl_7 (D_fl_6 : AQ X_fl_6 R_fl) (x : X_fl_7) : (tt_fl_7 D_fl_6 x).AH :=
 TT.sJ
def D_fl_7 (D_fl_6 : AQ X_fl_6 R_fl) : AQ X_fl_7 R_fl := .of (tt_fl_7 D_fl_6)
theorem ok_fl_7 (D_fl_6 : AQ X_fl_6 R_fl) (h_6 : AV J_fl S_fl_6 D_fl_6) : AV J_fl S_fl_7 (D_fl_7 D_fl_6) :=
 lk mxk (lbc h_6 rfl lbn) (sd_fl_7 D_fl_6)
def tt_fl_6 (D_fl_6 : AQ X_fl_6 R_fl) (x : X_fl_6) : TT Tryz.prog R_fl :=
 (.ite (BS x.RJ 4)
 (.need (A0 x.RJ x.Te.n) <|
 (.ite (BS (x.Te.get (Int.toNat x.RJ)) 0)
 (.ret false)
 (.need (A0 x.RJ x.Te.n) <|
 (.need (A0 x.RJ (ByteArray.size x.Mq)) <|
 (.call con_f44 (bt x.Mq (Int.toNat x.RJ)) fun (y2 : R_f44) =>
 (.ite (BS y2 (IntKind.u64.wrap (x.Te.get (Int.toNat x.RJ))))
 (.ret false)
 (.jump S_fl_7 (D_fl_7 D_fl_6) (X_fl_7.mk x.Mq x.Te x.RJ))))))))
 (.ret true))
theorem sd_fl_6 (D_fl_6 : AQ X_fl_6 R_fl) (x : X_fl_6) : (tt_fl_6 D_fl_6 x).AH :=
 (TT.sI (TT.sN (TT.sI TT.sR (TT.sN (TT.sN (TT.sC fun _ => (TT.sI TT.sR TT.sJ)))))) TT.sR)
def D_fl_6 : AQ X_fl_6 R_fl := AQ.loop tt_fl_6
theorem ok_fl_6 : AV J_fl S_fl_6 D_fl_6 :=
 Az fun D_fl_6 h_6 => lk mxk (lbc h_6 rfl (lbc (ok_fl_7 D_fl_6 h_6) rfl lbn)) (sd_fl_6 D_fl_6)
def tt_fl_4 (x : X_fl_4) : TT Tryz.prog R_fl :=
 (.jump S_fl_6 D_fl_6 (X_fl_6.mk x.Mq (Sl.mk false 4 (fun i1 => (cond (Nat.beq i1 0) x.Ff.A (cond (Nat.beq i1 1) x.Ff.B (cond (Nat.beq i1 2) x.Ff.C x.Ff.D))))) 0))
theorem sd_fl_4 (x : X_fl_4) : (tt_fl_4 x).AH :=
 TT.sJ
def D_fl_4 : AQ X_fl_4 R_fl := .of tt_fl_4
theorem ok_fl_4 : AV J_fl S_fl_4 D_fl_4 :=
 lk mxk (lbc ok_fl_6 rfl lbn) sd_fl_4
def tt_fl (x : X_fl) : TT Tryz.prog R_fl :=
 (.call con_f49 x.Op fun (y1 : R_f49) =>
 (.ite (seq y1 (ByteArray.mk #[]))
 (.ret false)
 (.need (A0 4 (ByteArray.size y1)) <|
 (.call con_f44 (bt y1 (Int.toNat 4)) fun (y2 : R_f44) =>
 (.ite (BS y2 x.K)
 (.ret false)
 (.jump S_fl_4 D_fl_4 (X_fl_4.mk x y1)))))))
theorem sd_fl (x : X_fl) : (tt_fl x).AH :=
 (TT.sC fun _ => (TT.sI TT.sR (TT.sN (TT.sC fun _ => (TT.sI TT.sR TT.sJ)))))
def D_fl : AQ X_fl R_fl := .of tt_fl
def con_fl : A3 Tryz.prog :=
 BZ 116 J_fl S_fl D_fl 1 0 [.any] (lk mxk (lbc ok_fl_6 rfl (lbc ok_fl_4 rfl lbn)) sd_fl)
abbrev X_f28 : Type := TPg × TIn × Int
abbrev R_f28 : Type := Int
def J_f28 : A9 Tryz.prog :=
 BF Tryz.prog Tryz.f117 56 [(3, 3), (4, 3)] [] [] [] [.any] [] [] R_f28 [] fun y => [(V.int .i64) y]
def S_f28 : AM :=
 Ae Tryz.f117 3 0 X_f28 (fun x => [e_TPg x.1, e_TIn x.2.1, (V.int .i64) x.2.2]) fun l => (d_TPg (at_ l 0), d_TIn (at_ l 1), dI (at_ l 2))
structure X_f28_3 where
 Da : TPg
 Ek : TIn
def S_f28_3 : AM :=
 Ad Tryz.f117 3 (an [3, 4]) [] [] X_f28_3 (fun x => [(CR e_TPg) x.Da, (CR e_TIn) x.Ek]) fun l => ⟨(CS d_TPg) (at_ l 0), (CS d_TIn) (at_ l 1)⟩
def tt_f28_3 (x : X_f28_3) : TT Tryz.prog R_f28 :=
 (.ite (Bd 18 x.Ek.Op)
 (.ite (Bd x.Ek.Op 20)
 (.ite (Bd ((x.Da.AJ.n : Nat) : Int) x.Ek.C)
 (.ret 7)
 (.ite (AX x.Ek.Op 19)
 (.need (A0 x.Ek.C x.Da.AJ.n) <|
 (.ite (Bd (IntKind.u64.wrap (x.Da.AJ.get (Int.toNat x.Ek.C)).AU) x.Ek.K)
 (.ret 7)
 (.ret 0)))
 (.ret 0)))
 (.ite (AX x.Ek.Op 19)
 (.need (A0 x.Ek.C x.Da.AJ.n) <|
 (.ite (Bd (IntKind.u64.wrap (x.Da.AJ.get (Int.toNat x.Ek.C)).AU) x.Ek.K)
 (.ret 7)
 (.ret 0)))
 (.ret 0)))
 (.ite (AX x.Ek.Op 19)
 (.need (A0 x.Ek.C x.Da.AJ.n) <|
 (.ite (Bd (IntKind.u64.wrap (x.Da.AJ.get (Int.toNat x.Ek.C)).AU) x.Ek.K)
 (.ret 7)
 (.ret 0)))
 (.ret 0)))
theorem sd_f28_3 (x : X_f28_3) : (tt_f28_3 x).AH :=
 (TT.sI (TT.sI (TT.sI TT.sR (TT.sI (TT.sN (TT.sI TT.sR TT.sR)) TT.sR)) (TT.sI (TT.sN (TT.sI TT.sR TT.sR)) TT.sR)) (TT.sI (TT.sN (TT.sI TT.sR TT.sR)) TT.sR))
def D_f28_3 : AQ X_f28_3 R_f28 := .of tt_f28_3
theorem ok_f28_3 : AV J_f28 S_f28_3 D_f28_3 :=
 lk mxk lbn sd_f28_3
def tt_f28 (x : X_f28) : TT Tryz.prog R_f28 :=
 (.ite (Bd 15 x.snd.fst.Op)
 (.ite (Bd x.snd.fst.Op 17)
 (.ite (BS (IntKind.u64.wrap x.snd.snd) x.snd.fst.K)
 (.ret 5)
 (.jump S_f28_3 D_f28_3 (X_f28_3.mk x.fst x.snd.fst)))
 (.jump S_f28_3 D_f28_3 (X_f28_3.mk x.fst x.snd.fst)))
 (.jump S_f28_3 D_f28_3 (X_f28_3.mk x.fst x.snd.fst)))
theorem sd_f28 (x : X_f28) : (tt_f28 x).AH :=
 (TT.sI (TT.sI (TT.sI TT.sR TT.sJ) TT.sJ) TT.sJ)
def D_f28 : AQ X_f28 R_f28 := .of tt_f28
def con_f28 : A3 Tryz.prog :=
 BZ 117 J_f28 S_f28 D_f28 3 0 [sh_TPg, .any, .any] (lk mxk (lbc ok_f28_3 rfl lbn) sd_f28)
abbrev X_f3 : Type := TPg
abbrev R_f3 : Type := Int × Int × Int
def J_f3 : A9 Tryz.prog :=
 BF Tryz.prog Tryz.f71 81 [(1, 3)] [] [] [] [.any, .any, .any] [] [con_fl, con_f28, con_f48] R_f3 [] fun y => [V.CC (V.cons ((V.int .i64) y.1) (V.cons ((V.int .i64) y.2.1) (V.cons ((V.int .i64) y.2.2) (V.unit))))]
def S_f3 : AM :=
 Ae Tryz.f71 1 0 X_f3 (fun x => [e_TPg x]) fun l => (d_TPg (at_ l 0))
structure X_f3_3 where
 DQ : TPg
def S_f3_3 : AM :=
 Ad Tryz.f71 3 [(1, .any)] [] [] X_f3_3 (fun x => [(CR e_TPg) x.DQ]) fun l => ⟨(CS d_TPg) (at_ l 0)⟩
structure X_f3_4 where
 DQ : TPg
 Ob : Int
def S_f3_4 : AM :=
 Ad Tryz.f71 4 (an [1, 5]) [] [] X_f3_4 (fun x => [(CR e_TPg) x.DQ, (V.int .i64) x.Ob]) fun l => ⟨(CS d_TPg) (at_ l 0), dI (at_ l 1)⟩
structure X_f3_8 where
 DQ : TPg
def S_f3_8 : AM :=
 Ad Tryz.f71 8 [(1, .any)] [] [] X_f3_8 (fun x => [(CR e_TPg) x.DQ]) fun l => ⟨(CS d_TPg) (at_ l 0)⟩
structure X_f3_9 where
 DQ : TPg
 K8 : Int
def S_f3_9 : AM :=
 Ad Tryz.f71 9 (an [1, 6]) [] [] X_f3_9 (fun x => [(CR e_TPg) x.DQ, (V.int .i64) x.K8]) fun l => ⟨(CS d_TPg) (at_ l 0), dI (at_ l 1)⟩
structure X_f3_10 where
 DQ : TPg
 K8 : Int
def S_f3_10 : AM :=
 Ad Tryz.f71 10 (an [1, 6]) [] [] X_f3_10 (fun x => [(CR e_TPg) x.DQ, (V.int .i64) x.K8]) fun l => ⟨(CS d_TPg) (at_ l 0), dI (at_ l 1)⟩
structure X_f3_15 where
 DQ : TPg
 K8 : Int
 PA : (Sl TIn)
 PB : Int
def S_f3_15 : AM :=
 Ad Tryz.f71 15 [(1, .any), (6, .any), (7, hsl_TIn), (8, .any)] [] [] X_f3_15 (fun x => [(CR e_TPg) x.DQ, (V.int .i64) x.K8, esl_TIn x.PA, (V.int .i64) x.PB]) fun l => ⟨(CS d_TPg) (at_ l 0), dI (at_ l 1), dsl_TIn (at_ l 2), dI (at_ l 3)⟩
structure X_f3_16 where
 DQ : TPg
 K8 : Int
 PA : (Sl TIn)
 PB : Int
def S_f3_16 : AM :=
 Ad Tryz.f71 16 [(1, .any), (6, .any), (7, hsl_TIn), (8, .any)] [] [] X_f3_16 (fun x => [(CR e_TPg) x.DQ, (V.int .i64) x.K8, esl_TIn x.PA, (V.int .i64) x.PB]) fun l => ⟨(CS d_TPg) (at_ l 0), dI (at_ l 1), dsl_TIn (at_ l 2), dI (at_ l 3)⟩
structure X_f3_20 where
 DQ : TPg
 K8 : Int
 PA : (Sl TIn)
 PB : Int
 e_9 : Int
def S_f3_20 : AM :=
 Ad Tryz.f71 20 [(1, .any), (6, .any), (7, hsl_TIn), (8, .any), (9, .any)] [] [] X_f3_20 (fun x => [(CR e_TPg) x.DQ, (V.int .i64) x.K8, esl_TIn x.PA, (V.int .i64) x.PB, (V.int .i64) x.e_9]) fun l => ⟨(CS d_TPg) (at_ l 0), dI (at_ l 1), dsl_TIn (at_ l 2), dI (at_ l 3), dI (at_ l 4)⟩
def tt_f3_10 (D_f3_9 : AQ X_f3_9 R_f3) (x : X_f3_10) : TT Tryz.prog R_f3 :=
 (.jump S_f3_9 D_f3_9 (X_f3_9.mk x.DQ (IntKind.i64.wrap (x.K8 + 1))))
theorem sd_f3_10 (D_f3_9 : AQ X_f3_9 R_f3) (x : X_f3_10) : (tt_f3_10 D_f3_9 x).AH :=
 TT.sJ
def D_f3_10 (D_f3_9 : AQ X_f3_9 R_f3) : AQ X_f3_10 R_f3 := .of (tt_f3_10 D_f3_9)
theorem ok_f3_10 (D_f3_9 : AQ X_f3_9 R_f3) (h_9 : AV J_f3 S_f3_9 D_f3_9) : AV J_f3 S_f3_10 (D_f3_10 D_f3_9) :=
 lk mxk (lbc h_9 rfl lbn) (sd_f3_10 D_f3_9)
def tt_f3_16 (_D_f3_9 : AQ X_f3_9 R_f3) (D_f3_15 : AQ X_f3_15 R_f3) (x : X_f3_16) : TT Tryz.prog R_f3 :=
 (.jump S_f3_15 D_f3_15 (X_f3_15.mk x.DQ x.K8 x.PA (IntKind.i64.wrap (x.PB + 1))))
theorem sd_f3_16 (D_f3_9 : AQ X_f3_9 R_f3) (D_f3_15 : AQ X_f3_15 R_f3) (x : X_f3_16) : (tt_f3_16 D_f3_9 D_f3_15 x).AH :=
 TT.sJ
def D_f3_16 (D_f3_9 : AQ X_f3_9 R_f3) (D_f3_15 : AQ X_f3_15 R_f3) : AQ X_f3_16 R_f3 := .of (tt_f3_16 D_f3_9 D_f3_15)
theorem ok_f3_16 (D_f3_9 : AQ X_f3_9 R_f3) (D_f3_15 : AQ X_f3_15 R_f3) (h_9 : AV J_f3 S_f3_9 D_f3_9) (h_15 : AV J_f3 S_f3_15 D_f3_15) : AV J_f3 S_f3_16 (D_f3_16 D_f3_9 D_f3_15) :=
 lk mxk (lbc h_9 rfl (lbc h_15 rfl (lbc (ok_f3_10 D_f3_9 h_9) rfl lbn))) (sd_f3_16 D_f3_9 D_f3_15)
def tt_f3_20 (D_f3_9 : AQ X_f3_9 R_f3) (D_f3_15 : AQ X_f3_15 R_f3) (x : X_f3_20) : TT Tryz.prog R_f3 :=
 (.ite (!(AX x.e_9 0))
 (.ret (x.K8, (x.PB, x.e_9)))
 (.jump S_f3_16 (D_f3_16 D_f3_9 D_f3_15) (X_f3_16.mk x.DQ x.K8 x.PA x.PB)))
theorem sd_f3_20 (D_f3_9 : AQ X_f3_9 R_f3) (D_f3_15 : AQ X_f3_15 R_f3) (x : X_f3_20) : (tt_f3_20 D_f3_9 D_f3_15 x).AH :=
 (TT.sI TT.sR TT.sJ)
def D_f3_20 (D_f3_9 : AQ X_f3_9 R_f3) (D_f3_15 : AQ X_f3_15 R_f3) : AQ X_f3_20 R_f3 := .of (tt_f3_20 D_f3_9 D_f3_15)
theorem ok_f3_20 (D_f3_9 : AQ X_f3_9 R_f3) (D_f3_15 : AQ X_f3_15 R_f3) (h_9 : AV J_f3 S_f3_9 D_f3_9) (h_15 : AV J_f3 S_f3_15 D_f3_15) : AV J_f3 S_f3_20 (D_f3_20 D_f3_9 D_f3_15) :=
 lk mxk (lbc h_9 rfl (lbc h_15 rfl (lbc (ok_f3_10 D_f3_9 h_9) rfl (lbc (ok_f3_16 D_f3_9 D_f3_15 h_9 h_15) rfl lbn)))) (sd_f3_20 D_f3_9 D_f3_15)
def tt_f3_15 (D_f3_9 : AQ X_f3_9 R_f3) (D_f3_15 : AQ X_f3_15 R_f3) (x : X_f3_15) : TT Tryz.prog R_f3 :=
 (.ite (BS x.PB ((x.PA.n : Nat) : Int))
 (.need (A0 x.PB x.PA.n) <|
 (.call con_fl (x.PA.get (Int.toNat x.PB)) fun (y3 : R_fl) =>
 (.ite y3
 (.need (A0 x.PB x.PA.n) <|
 (.call con_f28 (x.DQ, ((x.PA.get (Int.toNat x.PB)), ((x.PA.n : Nat) : Int))) fun (y4 : R_f28) =>
 (.jump S_f3_20 (D_f3_20 D_f3_9 D_f3_15) (X_f3_20.mk x.DQ x.K8 x.PA x.PB y4))))
 (.jump S_f3_20 (D_f3_20 D_f3_9 D_f3_15) (X_f3_20.mk x.DQ x.K8 x.PA x.PB 6)))))
 (.jump S_f3_10 (D_f3_10 D_f3_9) (X_f3_10.mk x.DQ x.K8)))
theorem sd_f3_15 (D_f3_9 : AQ X_f3_9 R_f3) (D_f3_15 : AQ X_f3_15 R_f3) (x : X_f3_15) : (tt_f3_15 D_f3_9 D_f3_15 x).AH :=
 (TT.sI (TT.sN (TT.sC fun _ => (TT.sI (TT.sN (TT.sC fun _ => TT.sJ)) TT.sJ))) TT.sJ)
def D_f3_15 (D_f3_9 : AQ X_f3_9 R_f3) : AQ X_f3_15 R_f3 := AQ.loop (tt_f3_15 D_f3_9)
theorem ok_f3_15 (D_f3_9 : AQ X_f3_9 R_f3) (h_9 : AV J_f3 S_f3_9 D_f3_9) : AV J_f3 S_f3_15 (D_f3_15 D_f3_9) :=
 Az fun D_f3_15 h_15 => lk mxk (lbc h_9 rfl (lbc h_15 rfl (lbc (ok_f3_10 D_f3_9 h_9) rfl (lbc (ok_f3_16 D_f3_9 D_f3_15 h_9 h_15) rfl (lbc (ok_f3_20 D_f3_9 D_f3_15 h_9 h_15) rfl lbn))))) (sd_f3_15 D_f3_9 D_f3_15)
def tt_f3_9 (D_f3_9 : AQ X_f3_9 R_f3) (x : X_f3_9) : TT Tryz.prog R_f3 :=
 (.ite (BS x.K8 ((x.DQ.AB.n : Nat) : Int))
 (.need (A0 x.K8 x.DQ.AB.n) <|
 (.ite (BS 256 (((x.DQ.AB.get (Int.toNat x.K8)).n : Nat) : Int))
 (.ret (x.K8, (256, 4)))
 (.jump S_f3_15 (D_f3_15 D_f3_9) (X_f3_15.mk x.DQ x.K8 (x.DQ.AB.get (Int.toNat x.K8)) 0))))
 (.ret (0, (0, 0))))
theorem sd_f3_9 (D_f3_9 : AQ X_f3_9 R_f3) (x : X_f3_9) : (tt_f3_9 D_f3_9 x).AH :=
 (TT.sI (TT.sN (TT.sI TT.sR TT.sJ)) TT.sR)
def D_f3_9 : AQ X_f3_9 R_f3 := AQ.loop tt_f3_9
theorem ok_f3_9 : AV J_f3 S_f3_9 D_f3_9 :=
 Az fun D_f3_9 h_9 => lk mxk (lbc h_9 rfl (lbc (ok_f3_10 D_f3_9 h_9) rfl (lbc (ok_f3_15 D_f3_9 h_9) rfl lbn))) (sd_f3_9 D_f3_9)
def tt_f3_8 (x : X_f3_8) : TT Tryz.prog R_f3 :=
 (.jump S_f3_9 D_f3_9 (X_f3_9.mk x.DQ 0))
theorem sd_f3_8 (x : X_f3_8) : (tt_f3_8 x).AH :=
 TT.sJ
def D_f3_8 : AQ X_f3_8 R_f3 := .of tt_f3_8
theorem ok_f3_8 : AV J_f3 S_f3_8 D_f3_8 :=
 lk mxk (lbc ok_f3_9 rfl lbn) sd_f3_8
def tt_f3_4 (D_f3_4 : AQ X_f3_4 R_f3) (x : X_f3_4) : TT Tryz.prog R_f3 :=
 (.ite (BS x.Ob ((x.DQ.AJ.n : Nat) : Int))
 (.need (A0 x.Ob x.DQ.AJ.n) <|
 (.call con_f48 (x.DQ.AJ.get (Int.toNat x.Ob)) fun (y2 : R_f48) =>
 (.ite (!y2)
 (.ret ((-(1 : Int)), (x.Ob, 7)))
 (.jump S_f3_4 D_f3_4 (X_f3_4.mk x.DQ (IntKind.i64.wrap (x.Ob + 1)))))))
 (.jump S_f3_8 D_f3_8 (X_f3_8.mk x.DQ)))
theorem sd_f3_4 (D_f3_4 : AQ X_f3_4 R_f3) (x : X_f3_4) : (tt_f3_4 D_f3_4 x).AH :=
 (TT.sI (TT.sN (TT.sC fun _ => (TT.sI TT.sR TT.sJ))) TT.sJ)
def D_f3_4 : AQ X_f3_4 R_f3 := AQ.loop tt_f3_4
theorem ok_f3_4 : AV J_f3 S_f3_4 D_f3_4 :=
 Az fun D_f3_4 h_4 => lk mxk (lbc h_4 rfl (lbc ok_f3_9 rfl (lbc ok_f3_8 rfl lbn))) (sd_f3_4 D_f3_4)
def tt_f3_3 (x : X_f3_3) : TT Tryz.prog R_f3 :=
 (.jump S_f3_4 D_f3_4 (X_f3_4.mk x.DQ 0))
theorem sd_f3_3 (x : X_f3_3) : (tt_f3_3 x).AH :=
 TT.sJ
def D_f3_3 : AQ X_f3_3 R_f3 := .of tt_f3_3
theorem ok_f3_3 : AV J_f3 S_f3_3 D_f3_3 :=
 lk mxk (lbc ok_f3_9 rfl (lbc ok_f3_8 rfl (lbc ok_f3_4 rfl lbn))) sd_f3_3
def tt_f3 (x : X_f3) : TT Tryz.prog R_f3 :=
 (.ite (AX ((x.AB.n : Nat) : Int) 0)
 (.ret (0, (0, 1)))
 (.ite (BS 8 ((x.AB.n : Nat) : Int))
 (.ret (0, (0, 1)))
 (.ite (BS 8 ((x.AJ.n : Nat) : Int))
 (.ret (0, (0, 1)))
 (.jump S_f3_3 D_f3_3 (X_f3_3.mk x)))))
theorem sd_f3 (x : X_f3) : (tt_f3 x).AH :=
 (TT.sI TT.sR (TT.sI TT.sR (TT.sI TT.sR TT.sJ)))
def D_f3 : AQ X_f3 R_f3 := .of tt_f3
def con_f3 : A3 Tryz.prog :=
 BZ 71 J_f3 S_f3 D_f3 1 0 [sh_TPg] (lk mxk (lbc ok_f3_9 rfl (lbc ok_f3_8 rfl (lbc ok_f3_4 rfl (lbc ok_f3_3 rfl lbn)))) sd_f3)
abbrev X_f41 : Type := TPg
abbrev R_f41 : Type := Bool
def J_f41 : A9 Tryz.prog :=
 BF Tryz.prog Tryz.f38 14 [(1, 3), (6, 1)] [] [] [] [.any] [] [con_f3] R_f41 [] fun y => [V.bool y]
def S_f41 : AM :=
 Ae Tryz.f38 1 0 X_f41 (fun x => [e_TPg x]) fun l => (d_TPg (at_ l 0))
def tt_f41 (x : X_f41) : TT Tryz.prog R_f41 :=
 (.call con_f3 x fun (y1 : R_f3) =>
 (.ret (AX y1.snd.snd 0)))
theorem sd_f41 (x : X_f41) : (tt_f41 x).AH :=
 (TT.sC fun _ => TT.sR)
def D_f41 : AQ X_f41 R_f41 := .of tt_f41
def con_f41 : A3 Tryz.prog :=
 BZ 38 J_f41 S_f41 D_f41 1 0 [sh_TPg] (lk mxk lbn sd_f41)
abbrev X_f42 : Type := TPg
abbrev R_f42 : Type := Bool
def J_f42 : A9 Tryz.prog :=
 BF Tryz.prog Tryz.f15 5 [(1, 3)] [] [] [] [.any] [] [con_f41] R_f42 [] fun y => [V.bool y]
def S_f42 : AM :=
 Ae Tryz.f15 1 0 X_f42 (fun x => [e_TPg x]) fun l => (d_TPg (at_ l 0))
def tt_f42 (x : X_f42) : TT Tryz.prog R_f42 :=
 (.call con_f41 x fun (y1 : R_f41) =>
 (.ret y1))
theorem sd_f42 (x : X_f42) : (tt_f42 x).AH :=
 (TT.sC fun _ => TT.sR)
def D_f42 : AQ X_f42 R_f42 := .of tt_f42
def con_f42 : A3 Tryz.prog :=
 BZ 15 J_f42 S_f42 D_f42 1 0 [sh_TPg] (lk mxk lbn sd_f42)
abbrev X_f4g : Type := TPg
abbrev R_f4g : Type := Bool
def J_f4g : A9 Tryz.prog :=
 BF Tryz.prog Tryz.f25 9 [(1, 3)] [] [] [] [.any] [] [con_f1t, con_f42] R_f4g [] fun y => [V.bool y]
def S_f4g : AM :=
 Ae Tryz.f25 1 0 X_f4g (fun x => [e_TPg x]) fun l => (d_TPg (at_ l 0))
def tt_f4g (x : X_f4g) : TT Tryz.prog R_f4g :=
 (.call con_f1t (x, 100) fun (y1 : R_f1t) =>
 (.ite y1
 (.call con_f42 x fun (y2 : R_f42) =>
 (.ret y2))
 (.ret false)))
theorem sd_f4g (x : X_f4g) : (tt_f4g x).AH :=
 (TT.sC fun _ => (TT.sI (TT.sC fun _ => TT.sR) TT.sR))
def D_f4g : AQ X_f4g R_f4g := .of tt_f4g
def con_f4g : A3 Tryz.prog :=
 BZ 25 J_f4g S_f4g D_f4g 1 0 [sh_TPg] (lk mxk lbn sd_f4g)
structure TR2 where
 L : (Sl TSo)
 AU : Int
def d_TR2 (v : V) : TR2 :=
 ⟨dsl_TSo (fd v 0), dI (fd v 1)⟩
def e_TR2 (x : TR2) : V :=
 V.cons (esl_TSo x.L) (V.cons ((V.int .i64) x.AU) (V.unit))
theorem nu_e_TR2 (x : TR2) : (e_TR2 x).CV := ⟨trivial, trivial, trivial⟩
def sh_TR2 : Sh := (.cons hsl_TSo .any)
abbrev DslA_TSo : Type := (Sl TSo)
def eslA_TSo : DslA_TSo → V := (LA (some 206) 3 e_TSo)
def dslA_TSo : V → DslA_TSo := (LX d_TSo)
def hslA_TSo : Sh := (.sl (some 206) 3 (e_TSo (d_TSo .undef)))
def e_TR2_0 (x : TR2) : V :=
 V.cons (eslA_TSo x.L) (V.cons ((V.int .i64) x.AU) (V.unit))
theorem nu_e_TR2_0 (x : TR2) : (e_TR2_0 x).CV := ⟨trivial, trivial, trivial⟩
def sh_TR2_0 : Sh := (.cons hslA_TSo .any)
abbrev X_f2m : Type := Int × Int
abbrev R_f2m : Type := TR2
def J_f2m : A9 Tryz.prog :=
 BF Tryz.prog Tryz.f118 24 [(15, 1)] [] [] [] [sh_TR2] [] [] R_f2m [] fun y => [e_TR2 y]
def S_f2m : AM :=
 Ae Tryz.f118 2 0 X_f2m (fun x => [(V.int .i64) x.1, (V.int .i64) x.2]) fun l => (dI (at_ l 0), dI (at_ l 1))
structure X_f2m_3 where
 EX : Int
 Oa : Int
 Bt : TR2
 BA : TR2
def S_f2m_3 : AM :=
 Ad Tryz.f118 3 (an [0, 4, 5, 6]) [] [(.loc 4 0, sh_TR2), (.loc 5 0, sh_TR2_0)] X_f2m_3 (fun x => [(V.int .i64) x.EX, (V.ptr (.loc 4 0) []), (V.ptr (.loc 5 0) []), (V.int .i64) x.Oa, e_TR2 x.Bt, e_TR2_0 x.BA]) fun l => ⟨dI (at_ l 0), dI (at_ l 3), d_TR2 (at_ l 4), d_TR2 (at_ l 5)⟩
def tt_f2m_3 (D_f2m_3 : AQ X_f2m_3 R_f2m) (x : X_f2m_3) : TT Tryz.prog R_f2m :=
 (.ite (BS x.Oa x.EX)
 (.need (true && (room (x.BA.L.n + 1) 24)) <|
 (.jump S_f2m_3 D_f2m_3 (X_f2m_3.mk x.EX (IntKind.i64.wrap (x.Oa + 1)) x.Bt (TR2.mk (Sl.mk (cond (Nat.beq 1 0) x.BA.L.nil false) (x.BA.L.n + 1) (fun i2 => (TSo.mk (cond (Nat.blt i2 x.BA.L.n) (x.BA.L.get i2).AO (IntKind.u64.wrap ((2 : Int) * (IntKind.u64.wrap x.Oa)))) (cond (Nat.blt i2 x.BA.L.n) (x.BA.L.get i2).Value (0 : Int)) (cond (Nat.blt i2 x.BA.L.n) (x.BA.L.get i2).Left (0 : Int))))) x.BA.AU))))
 (.ret x.BA))
theorem sd_f2m_3 (D_f2m_3 : AQ X_f2m_3 R_f2m) (x : X_f2m_3) : (tt_f2m_3 D_f2m_3 x).AH :=
 (TT.sI (TT.sN TT.sJ) TT.sR)
def D_f2m_3 : AQ X_f2m_3 R_f2m := AQ.loop tt_f2m_3
theorem ok_f2m_3 : AV J_f2m S_f2m_3 D_f2m_3 :=
 Az fun D_f2m_3 h_3 => lk mxk (lbc h_3 rfl lbn) (sd_f2m_3 D_f2m_3)
def tt_f2m (x : X_f2m) : TT Tryz.prog R_f2m :=
 (.jump S_f2m_3 D_f2m_3 (X_f2m_3.mk x.fst 0 (TR2.mk (Sl.mk true 0 (fun _i1 => (TSo.mk 0 0 0))) 0) (TR2.mk (Sl.mk true 0 (fun _i1 => (TSo.mk 0 0 0))) x.snd)))
theorem sd_f2m (x : X_f2m) : (tt_f2m x).AH :=
 TT.sJ
def D_f2m : AQ X_f2m R_f2m := .of tt_f2m
def con_f2m : A3 Tryz.prog :=
 BZ 118 J_f2m S_f2m D_f2m 2 0 [.any, .any] (lk mxk (lbc ok_f2m_3 rfl lbn) sd_f2m)
structure TR3 where
 Cn : Int
 Aq : Int
 AY : (Sl Int)
 Aw : Bool
 S : TR2
def d_TR3 (v : V) : TR3 :=
 ⟨dI (fd v 0), dI (fd v 1), FO (fd v 2), dB (fd v 3), d_TR2 (fd v 4)⟩
def e_TR3 (x : TR3) : V :=
 V.cons ((V.int .u64) x.Cn) (V.cons ((V.int .u64) x.Aq) (V.cons (EU x.AY) (V.cons (V.bool x.Aw) (V.cons (e_TR2 x.S) (V.unit)))))
theorem nu_e_TR3 (x : TR3) : (e_TR3 x).CV := ⟨trivial, trivial, trivial, trivial, (nu_e_TR2 : ∀ y, (e_TR2 y).CV) x.S, trivial⟩
def sh_TR3 : Sh := (.cons .any (.cons .any (.cons Ep (.cons .any (.cons sh_TR2 .any)))))
abbrev X_f4c : Type := TRg
abbrev R_f4c : Type := TR3
def J_f4c : A9 Tryz.prog :=
 BF Tryz.prog Tryz.f73 15 [(1, 3), (8, 2)] [] [] [] [sh_TR3] [] [con_f2m] R_f4c [] fun y => [e_TR3 y]
def S_f4c : AM :=
 Ae Tryz.f73 1 0 X_f4c (fun x => [e_TRg x]) fun l => (d_TRg (at_ l 0))
def tt_f4c (x : X_f4c) : TT Tryz.prog R_f4c :=
 (.need ((((upto x.AU (Int.toNat x.AU)) && (Bd 0 x.AU)) && (room (Int.toNat x.AU) 8)) && (decide ((x.AU ≤ (9223372036854775807 : Int))))) <|
 (.call con_f2m (x.Cn, x.AU) fun (y1 : R_f2m) =>
 (.ret (TR3.mk (IntKind.u64.wrap x.Cn) 0 (Sl.mk false (Int.toNat x.AU) (fun _i2 => (0 : Int))) false y1))))
theorem sd_f4c (x : X_f4c) : (tt_f4c x).AH :=
 (TT.sN (TT.sC fun _ => TT.sR))
def D_f4c : AQ X_f4c R_f4c := .of tt_f4c
def con_f4c : A3 Tryz.prog :=
 BZ 73 J_f4c S_f4c D_f4c 1 0 [.any] (lk mxk lbn sd_f4c)
abbrev X_f3l : Type := TR3
abbrev R_f3l : Type := TRs
def J_f3l : A9 Tryz.prog :=
 BF Tryz.prog Tryz.f72 17 [(1, 3)] [] [] [] [sh_TRs] [] [] R_f3l [] fun y => [e_TRs y]
def S_f3l : AM :=
 Ae Tryz.f72 1 0 X_f3l (fun x => [e_TR3 x]) fun l => (d_TR3 (at_ l 0))
def tt_f3l (x : X_f3l) : TT Tryz.prog R_f3l :=
 (.need (true && (room ((0 : Nat) + x.AY.n) 8)) <|
 (.need (true && (room ((0 : Nat) + x.S.L.n) 24)) <|
 (.ret (TRs.mk x.Aq (Sl.mk (cond (Nat.beq x.AY.n 0) false false) ((0 : Nat) + x.AY.n) (fun i1 => (cond (Nat.blt i1 0) (0 : Int) (x.AY.get (i1 - 0))))) x.Aw (Sl.mk (cond (Nat.beq x.S.L.n 0) false false) ((0 : Nat) + x.S.L.n) (fun i1 => (TSo.mk (cond (Nat.blt i1 0) (0 : Int) (x.S.L.get (i1 - 0)).AO) (cond (Nat.blt i1 0) (0 : Int) (x.S.L.get (i1 - 0)).Value) (cond (Nat.blt i1 0) (0 : Int) (x.S.L.get (i1 - 0)).Left))))))))
theorem sd_f3l (x : X_f3l) : (tt_f3l x).AH :=
 (TT.sN (TT.sN TT.sR))
def D_f3l : AQ X_f3l R_f3l := .of tt_f3l
def con_f3l : A3 Tryz.prog :=
 BZ 72 J_f3l S_f3l D_f3l 1 0 [sh_TR3] (lk mxk lbn sd_f3l)
abbrev Dsl_TRs : Type := (Sl TRs)
def esl_TRs : Dsl_TRs → V := (LA none 4 e_TRs)
def dsl_TRs : V → Dsl_TRs := (LX d_TRs)
def hsl_TRs : Sh := (.sl none 4 (e_TRs (d_TRs .undef)))
structure TSt where
 AB : (Sl TTh)
 AJ : (Sl TRs)
 FD : Int
 Reads : Int
 CF : Bool
def d_TSt (v : V) : TSt :=
 ⟨dsl_TTh (fd v 0), dsl_TRs (fd v 1), dI (fd v 2), dI (fd v 3), dB (fd v 4)⟩
def e_TSt (x : TSt) : V :=
 V.cons (esl_TTh x.AB) (V.cons (esl_TRs x.AJ) (V.cons ((V.int .u64) x.FD) (V.cons ((V.int .u64) x.Reads) (V.cons (V.bool x.CF) (V.unit)))))
theorem nu_e_TSt (x : TSt) : (e_TSt x).CV := ⟨trivial, trivial, trivial, trivial, trivial, trivial⟩
def sh_TSt : Sh := (.cons hsl_TTh (.cons hsl_TRs .any))
abbrev DslA_TRs : Type := (Sl TRs)
def eslA_TRs : DslA_TRs → V := (LA (some 124) 4 e_TRs)
def dslA_TRs : V → DslA_TRs := (LX d_TRs)
def hslA_TRs : Sh := (.sl (some 124) 4 (e_TRs (d_TRs .undef)))
def e_TSt_1 (x : TSt) : V :=
 V.cons (esl_TTh x.AB) (V.cons (eslA_TRs x.AJ) (V.cons ((V.int .u64) x.FD) (V.cons ((V.int .u64) x.Reads) (V.cons (V.bool x.CF) (V.unit)))))
theorem nu_e_TSt_1 (x : TSt) : (e_TSt_1 x).CV := ⟨trivial, trivial, trivial, trivial, trivial, trivial⟩
def sh_TSt_1 : Sh := (.cons hsl_TTh (.cons hslA_TRs .any))
abbrev X_f2n : Type := TPg
abbrev R_f2n : Type := TSt
def J_f2n : A9 Tryz.prog :=
 BF Tryz.prog Tryz.f41 30 [(1, 3), (8, 2), (18, 1)] [] [] [] [sh_TSt] [] [con_f4c, con_f3l] R_f2n [] fun y => [e_TSt y]
def S_f2n : AM :=
 Ae Tryz.f41 1 0 X_f2n (fun x => [e_TPg x]) fun l => (d_TPg (at_ l 0))
structure X_f2n_3 where
 DQ : TPg
 Ek : Int
 Fe : TSt
 BG : TSt
def S_f2n_3 : AM :=
 Ad Tryz.f41 3 (an [1, 2, 3, 4]) [] [(.loc 2 0, sh_TSt), (.loc 3 0, sh_TSt_1)] X_f2n_3 (fun x => [(CR e_TPg) x.DQ, (V.ptr (.loc 2 0) []), (V.ptr (.loc 3 0) []), (V.int .i64) x.Ek, e_TSt x.Fe, e_TSt_1 x.BG]) fun l => ⟨(CS d_TPg) (at_ l 0), dI (at_ l 3), d_TSt (at_ l 4), d_TSt (at_ l 5)⟩
def tt_f2n_3 (D_f2n_3 : AQ X_f2n_3 R_f2n) (x : X_f2n_3) : TT Tryz.prog R_f2n :=
 (.ite (BS x.Ek ((x.DQ.AJ.n : Nat) : Int))
 (.need (A0 x.Ek x.DQ.AJ.n) <|
 (.call con_f4c (x.DQ.AJ.get (Int.toNat x.Ek)) fun (y2 : R_f4c) =>
 (.call con_f3l y2 fun (y3 : R_f3l) =>
 (.need (true && (room (x.BG.AJ.n + 1) 64)) <|
 (.jump S_f2n_3 D_f2n_3 (X_f2n_3.mk x.DQ (IntKind.i64.wrap (x.Ek + 1)) x.Fe (TSt.mk x.BG.AB (Sl.mk (cond (Nat.beq 1 0) x.BG.AJ.nil false) (x.BG.AJ.n + 1) (fun i4 => (TRs.mk (cond (Nat.blt i4 x.BG.AJ.n) (x.BG.AJ.get i4).Aq y3.Aq) (Sl.mk (cond (Nat.blt i4 x.BG.AJ.n) (x.BG.AJ.get i4).AY.nil y3.AY.nil) (cond (Nat.blt i4 x.BG.AJ.n) (x.BG.AJ.get i4).AY.n y3.AY.n) (fun i5 => (cond (Nat.blt i4 x.BG.AJ.n) ((x.BG.AJ.get i4).AY.get i5) (y3.AY.get i5)))) (cond (Nat.blt i4 x.BG.AJ.n) (x.BG.AJ.get i4).Aw y3.Aw) (Sl.mk (cond (Nat.blt i4 x.BG.AJ.n) (x.BG.AJ.get i4).Ao.nil y3.Ao.nil) (cond (Nat.blt i4 x.BG.AJ.n) (x.BG.AJ.get i4).Ao.n y3.Ao.n) (fun i5 => (TSo.mk (cond (Nat.blt i4 x.BG.AJ.n) ((x.BG.AJ.get i4).Ao.get i5).AO (y3.Ao.get i5).AO) (cond (Nat.blt i4 x.BG.AJ.n) ((x.BG.AJ.get i4).Ao.get i5).Value (y3.Ao.get i5).Value) (cond (Nat.blt i4 x.BG.AJ.n) ((x.BG.AJ.get i4).Ao.get i5).Left (y3.Ao.get i5).Left))))))) x.BG.FD x.BG.Reads x.BG.CF)))))))
 (.ret x.BG))
theorem sd_f2n_3 (D_f2n_3 : AQ X_f2n_3 R_f2n) (x : X_f2n_3) : (tt_f2n_3 D_f2n_3 x).AH :=
 (TT.sI (TT.sN (TT.sC fun _ => (TT.sC fun _ => (TT.sN TT.sJ)))) TT.sR)
def D_f2n_3 : AQ X_f2n_3 R_f2n := AQ.loop tt_f2n_3
theorem ok_f2n_3 : AV J_f2n S_f2n_3 D_f2n_3 :=
 Az fun D_f2n_3 h_3 => lk mxk (lbc h_3 rfl lbn) (sd_f2n_3 D_f2n_3)
def tt_f2n (x : X_f2n) : TT Tryz.prog R_f2n :=
 (.need ((((upto ((x.AB.n : Nat) : Int) (Int.toNat ((x.AB.n : Nat) : Int))) && (Bd 0 ((x.AB.n : Nat) : Int))) && (room (Int.toNat ((x.AB.n : Nat) : Int)) 128)) && (decide ((((x.AB.n : Nat) : Int) ≤ (9223372036854775807 : Int))))) <|
 (.jump S_f2n_3 D_f2n_3 (X_f2n_3.mk x 0 (TSt.mk (Sl.mk true 0 (fun _i1 => (TTh.mk 0 0 0 0 0 (fun _i2 => (0 : Int)) (Sl.mk true 0 (fun _i2 => (0 : Int)))))) (Sl.mk true 0 (fun _i1 => (TRs.mk 0 (Sl.mk true 0 (fun _i2 => (0 : Int))) false (Sl.mk true 0 (fun _i2 => (TSo.mk 0 0 0)))))) 0 0 false) (TSt.mk (Sl.mk false (Int.toNat ((x.AB.n : Nat) : Int)) (fun _i1 => (TTh.mk 0 0 0 0 0 (fun _i2 => (0 : Int)) (Sl.mk true 0 (fun _i2 => (0 : Int)))))) (Sl.mk true 0 (fun _i1 => (TRs.mk 0 (Sl.mk true 0 (fun _i2 => (0 : Int))) false (Sl.mk true 0 (fun _i2 => (TSo.mk 0 0 0)))))) 0 0 false))))
theorem sd_f2n (x : X_f2n) : (tt_f2n x).AH :=
 (TT.sN TT.sJ)
def D_f2n : AQ X_f2n R_f2n := .of tt_f2n
def con_f2n : A3 Tryz.prog :=
 BZ 41 J_f2n S_f2n D_f2n 1 0 [sh_TPg] (lk mxk (lbc ok_f2n_3 rfl lbn) sd_f2n)
abbrev X_f3w : Type := Int
abbrev R_f3w : Type := ByteArray
def J_f3w : A9 Tryz.prog :=
 BF Tryz.prog Tryz.f78 19 [] [] [] [] [.any] [] [] R_f3w [] fun y => [V.str y]
def S_f3w : AM :=
 Ae Tryz.f78 1 0 X_f3w (fun x => [(V.int .i64) x]) fun l => (dI (at_ l 0))
def tt_f3w (x : X_f3w) : TT Tryz.prog R_f3w :=
 (.ite (AX x 1)
 (.ret (ByteArray.mk #[82, 84]))
 (.ite (AX x 2)
 (.ret (ByteArray.mk #[82, 84]))
 (.ite (AX x 3)
 (.ret (ByteArray.mk #[82, 84]))
 (.ite (AX x 4)
 (.ret (ByteArray.mk #[82, 84]))
 (.ite (AX x 13)
 (.ret (ByteArray.mk #[82, 84]))
 (.ite (AX x 5)
 (.ret (ByteArray.mk #[82]))
 (.ite (AX x 6)
 (.ret (ByteArray.mk #[82]))
 (.ite (AX x 7)
 (.ret (ByteArray.mk #[82]))
 (.ite (AX x 8)
 (.ret (ByteArray.mk #[86]))
 (.ite (AX x 9)
 (.ret (ByteArray.mk #[86]))
 (.ite (AX x 10)
 (.ret (ByteArray.mk #[86]))
 (.ite (AX x 12)
 (.ret (ByteArray.mk #[86]))
 (.ret (ByteArray.mk #[]))))))))))))))
theorem sd_f3w (x : X_f3w) : (tt_f3w x).AH :=
 (TT.sI TT.sR (TT.sI TT.sR (TT.sI TT.sR (TT.sI TT.sR (TT.sI TT.sR (TT.sI TT.sR (TT.sI TT.sR (TT.sI TT.sR (TT.sI TT.sR (TT.sI TT.sR (TT.sI TT.sR (TT.sI TT.sR TT.sR))))))))))))
def D_f3w : AQ X_f3w R_f3w := .of tt_f3w
def con_f3w : A3 Tryz.prog :=
 BZ 78 J_f3w S_f3w D_f3w 1 0 [.any] (lk mxk lbn sd_f3w)
abbrev X_f2y : Type := Int
abbrev R_f2y : Type := ByteArray
def J_f2y : A9 Tryz.prog :=
 BF Tryz.prog Tryz.f51 16 [(11, 1)] [] [] [] [.any] [] [] R_f2y [] fun y => [V.str y]
def S_f2y : AM :=
 Ae Tryz.f51 1 0 X_f2y (fun x => [(V.int .i64) x]) fun l => (dI (at_ l 0))
structure X_f2y_4 where
 HY : Int
 Ma : (Sl ByteArray)
def S_f2y_4 : AM :=
 Ad Tryz.f51 4 [(0, .any), (3, Mh)] [] [] X_f2y_4 (fun x => [(V.int .i64) x.HY, Px x.Ma]) fun l => ⟨dI (at_ l 0), Py (at_ l 1)⟩
def tt_f2y_4 (x : X_f2y_4) : TT Tryz.prog R_f2y :=
 (.need (A0 (IntKind.i64.wrap (x.HY - 1)) x.Ma.n) <|
 (.ret (x.Ma.get (Int.toNat (IntKind.i64.wrap (x.HY - 1))))))
theorem sd_f2y_4 (x : X_f2y_4) : (tt_f2y_4 x).AH :=
 (TT.sN TT.sR)
def D_f2y_4 : AQ X_f2y_4 R_f2y := .of tt_f2y_4
theorem ok_f2y_4 : AV J_f2y S_f2y_4 D_f2y_4 :=
 lk mxk lbn sd_f2y_4
def tt_f2y (x : X_f2y) : TT Tryz.prog R_f2y :=
 (.ite (BS x 1)
 (.ret (ByteArray.mk #[]))
 (.ite (BS 15 x)
 (.ret (ByteArray.mk #[]))
 (.jump S_f2y_4 D_f2y_4 (X_f2y_4.mk x (Sl.mk false 15 (fun i1 => (cond (Nat.beq i1 0) (ByteArray.mk #[99, 108, 97, 105, 109]) (cond (Nat.beq i1 1) (ByteArray.mk #[112, 117, 98, 108, 105, 115, 104]) (cond (Nat.beq i1 2) (ByteArray.mk #[116, 97, 107, 101]) (cond (Nat.beq i1 3) (ByteArray.mk #[114, 101, 108, 101, 97, 115, 101]) (cond (Nat.beq i1 4) (ByteArray.mk #[110, 111]) (cond (Nat.beq i1 5) (ByteArray.mk #[115, 104, 117, 116]) (cond (Nat.beq i1 6) (ByteArray.mk #[116, 105, 109, 101]) (cond (Nat.beq i1 7) (ByteArray.mk #[99, 108, 111, 99, 107]) (cond (Nat.beq i1 8) (ByteArray.mk #[100, 114, 97, 119]) (cond (Nat.beq i1 9) (ByteArray.mk #[114, 101, 97, 100]) (cond (Nat.beq i1 10) (ByteArray.mk #[101, 110, 100]) (cond (Nat.beq i1 11) (ByteArray.mk #[115, 101, 101]) (cond (Nat.beq i1 12) (ByteArray.mk #[99, 108, 111, 115, 101]) (cond (Nat.beq i1 13) (ByteArray.mk #[104, 97, 108, 116]) (ByteArray.mk #[115, 112, 105, 110])))))))))))))))))))))
theorem sd_f2y (x : X_f2y) : (tt_f2y x).AH :=
 (TT.sI TT.sR (TT.sI TT.sR TT.sJ))
def D_f2y : AQ X_f2y R_f2y := .of tt_f2y
def con_f2y : A3 Tryz.prog :=
 BZ 51 J_f2y S_f2y D_f2y 1 0 [.any] (lk mxk (lbc ok_f2y_4 rfl lbn) sd_f2y)
abbrev X_f1x : Type := ByteArray × Int
abbrev R_f1x : Type := Bool
def J_f1x : A9 Tryz.prog :=
 BF Tryz.prog Tryz.f91 17 [] [] [] [] [.any] [] [] R_f1x [] fun y => [V.bool y]
def S_f1x : AM :=
 Ae Tryz.f91 2 0 X_f1x (fun x => [V.str x.1, (V.int .u8) x.2]) fun l => (dS (at_ l 0), dI (at_ l 1))
structure X_f1x_2 where
 S2 : ByteArray
 c_1 : Int
 Ob : Int
def S_f1x_2 : AM :=
 Ad Tryz.f91 2 (an [0, 1, 5]) [] [] X_f1x_2 (fun x => [V.str x.S2, (V.int .u8) x.c_1, (V.int .i64) x.Ob]) fun l => ⟨dS (at_ l 0), dI (at_ l 1), dI (at_ l 2)⟩
def tt_f1x_2 (D_f1x_2 : AQ X_f1x_2 R_f1x) (x : X_f1x_2) : TT Tryz.prog R_f1x :=
 (.ite (BS x.Ob (((ByteArray.size x.S2) : Nat) : Int))
 (.need (A0 x.Ob (ByteArray.size x.S2)) <|
 (.ite (AX (bt x.S2 (Int.toNat x.Ob)) x.c_1)
 (.ret true)
 (.jump S_f1x_2 D_f1x_2 (X_f1x_2.mk x.S2 x.c_1 (IntKind.i64.wrap (x.Ob + 1))))))
 (.ret false))
theorem sd_f1x_2 (D_f1x_2 : AQ X_f1x_2 R_f1x) (x : X_f1x_2) : (tt_f1x_2 D_f1x_2 x).AH :=
 (TT.sI (TT.sN (TT.sI TT.sR TT.sJ)) TT.sR)
def D_f1x_2 : AQ X_f1x_2 R_f1x := AQ.loop tt_f1x_2
theorem ok_f1x_2 : AV J_f1x S_f1x_2 D_f1x_2 :=
 Az fun D_f1x_2 h_2 => lk mxk (lbc h_2 rfl lbn) (sd_f1x_2 D_f1x_2)
def tt_f1x (x : X_f1x) : TT Tryz.prog R_f1x :=
 (.jump S_f1x_2 D_f1x_2 (X_f1x_2.mk x.fst x.snd 0))
theorem sd_f1x (x : X_f1x) : (tt_f1x x).AH :=
 TT.sJ
def D_f1x : AQ X_f1x R_f1x := .of tt_f1x
def con_f1x : A3 Tryz.prog :=
 BZ 91 J_f1x S_f1x D_f1x 2 0 [.any, .any] (lk mxk (lbc ok_f1x_2 rfl lbn) sd_f1x)
abbrev X_f2j : Type := TEv
abbrev R_f2j : Type := Bool
def J_f2j : A9 Tryz.prog :=
 BF Tryz.prog Tryz.f49 61 [(1, 3)] [] [] [] [.any] [] [con_f2y, con_f3w, con_f1x] R_f2j [] fun y => [V.bool y]
def S_f2j : AM :=
 Ae Tryz.f49 1 0 X_f2j (fun x => [e_TEv x]) fun l => (d_TEv (at_ l 0))
structure X_f2j_4 where
 NG : TEv
 Mq : ByteArray
def S_f2j_4 : AM :=
 Ad Tryz.f49 4 (an [1, 3]) [] [] X_f2j_4 (fun x => [(CR e_TEv) x.NG, V.str x.Mq]) fun l => ⟨(CS d_TEv) (at_ l 0), dS (at_ l 1)⟩
def tt_f2j_4 (x : X_f2j_4) : TT Tryz.prog R_f2j :=
 (.call con_f1x (x.Mq, 82) fun (y1 : R_f1x) =>
 (.ite y1
 (.call con_f1x (x.Mq, 84) fun (y2 : R_f1x) =>
 (.ite y2
 (.call con_f1x (x.Mq, 86) fun (y3 : R_f1x) =>
 (.ite y3
 (.ret true)
 (.ret (AX x.NG.Value 0))))
 (.ite (AX x.NG.AG 0)
 (.call con_f1x (x.Mq, 86) fun (y3 : R_f1x) =>
 (.ite y3
 (.ret true)
 (.ret (AX x.NG.Value 0))))
 (.ret false))))
 (.ite (AX x.NG.Ring 0)
 (.call con_f1x (x.Mq, 84) fun (y2 : R_f1x) =>
 (.ite y2
 (.call con_f1x (x.Mq, 86) fun (y3 : R_f1x) =>
 (.ite y3
 (.ret true)
 (.ret (AX x.NG.Value 0))))
 (.ite (AX x.NG.AG 0)
 (.call con_f1x (x.Mq, 86) fun (y3 : R_f1x) =>
 (.ite y3
 (.ret true)
 (.ret (AX x.NG.Value 0))))
 (.ret false))))
 (.ret false))))
theorem sd_f2j_4 (x : X_f2j_4) : (tt_f2j_4 x).AH :=
 (TT.sC fun _ => (TT.sI (TT.sC fun _ => (TT.sI (TT.sC fun _ => (TT.sI TT.sR TT.sR)) (TT.sI (TT.sC fun _ => (TT.sI TT.sR TT.sR)) TT.sR))) (TT.sI (TT.sC fun _ => (TT.sI (TT.sC fun _ => (TT.sI TT.sR TT.sR)) (TT.sI (TT.sC fun _ => (TT.sI TT.sR TT.sR)) TT.sR))) TT.sR)))
def D_f2j_4 : AQ X_f2j_4 R_f2j := .of tt_f2j_4
theorem ok_f2j_4 : AV J_f2j S_f2j_4 D_f2j_4 :=
 lk mxk lbn sd_f2j_4
def tt_f2j (x : X_f2j) : TT Tryz.prog R_f2j :=
 (.call con_f3w x.Kind fun (y1 : R_f3w) =>
 (.call con_f2y x.Kind fun (y2 : R_f2y) =>
 (.ite (seq y2 (ByteArray.mk #[]))
 (.ret false)
 (.ite (BS x.Thread 0)
 (.ret false)
 (.ite (BS 7 x.Thread)
 (.ret false)
 (.ite (BS x.Ring 0)
 (.ret false)
 (.ite (BS 7 x.Ring)
 (.ret false)
 (.ite (Bd 4611686018427387904 x.AG)
 (.ret false)
 (.jump S_f2j_4 D_f2j_4 (X_f2j_4.mk x y1))))))))))
theorem sd_f2j (x : X_f2j) : (tt_f2j x).AH :=
 (TT.sC fun _ => (TT.sC fun _ => (TT.sI TT.sR (TT.sI TT.sR (TT.sI TT.sR (TT.sI TT.sR (TT.sI TT.sR (TT.sI TT.sR TT.sJ))))))))
def D_f2j : AQ X_f2j R_f2j := .of tt_f2j
def con_f2j : A3 Tryz.prog :=
 BZ 49 J_f2j S_f2j D_f2j 1 0 [.any] (lk mxk (lbc ok_f2j_4 rfl lbn) sd_f2j)
abbrev X_fb : Type := Int × Int × Int
abbrev R_fb : Type := Int
def J_fb : A9 Tryz.prog :=
 BF Tryz.prog Tryz.f199 58 [] [] [] [] [.any] [] [] R_fb [] fun y => [(V.int .u64) y]
def S_fb : AM :=
 Ae Tryz.f199 3 0 X_fb (fun x => [(V.int .i64) x.1, (V.int .u64) x.2.1, (V.int .u64) x.2.2]) fun l => (dI (at_ l 0), dI (at_ l 1), dI (at_ l 2))
structure X_fb_3 where
 DV : Int
 Fc : Int
 Ga : Int
 C1 : Int
 Bf : Int
 G9 : Int
def S_fb_3 : AM :=
 Ad Tryz.f199 3 (an [0, 1, 2, 7, 8, 9]) [] [] X_fb_3 (fun x => [(V.int .i64) x.DV, (V.int .u64) x.Fc, (V.int .u64) x.Ga, (V.int .u64) x.C1, (V.int .u64) x.Bf, (V.int .i64) x.G9]) fun l => ⟨dI (at_ l 0), dI (at_ l 1), dI (at_ l 2), dI (at_ l 3), dI (at_ l 4), dI (at_ l 5)⟩
structure X_fb_4 where
 DV : Int
 Fc : Int
 Ga : Int
 C1 : Int
 Bf : Int
 G9 : Int
def S_fb_4 : AM :=
 Ad Tryz.f199 4 (an [0, 1, 2, 7, 8, 9]) [] [] X_fb_4 (fun x => [(V.int .i64) x.DV, (V.int .u64) x.Fc, (V.int .u64) x.Ga, (V.int .u64) x.C1, (V.int .u64) x.Bf, (V.int .i64) x.G9]) fun l => ⟨dI (at_ l 0), dI (at_ l 1), dI (at_ l 2), dI (at_ l 3), dI (at_ l 4), dI (at_ l 5)⟩
structure X_fb_8 where
 DV : Int
 Fc : Int
 Ga : Int
 C1 : Int
 Bf : Int
 G9 : Int
def S_fb_8 : AM :=
 Ad Tryz.f199 8 (an [0, 1, 2, 7, 8, 9]) [] [] X_fb_8 (fun x => [(V.int .i64) x.DV, (V.int .u64) x.Fc, (V.int .u64) x.Ga, (V.int .u64) x.C1, (V.int .u64) x.Bf, (V.int .i64) x.G9]) fun l => ⟨dI (at_ l 0), dI (at_ l 1), dI (at_ l 2), dI (at_ l 3), dI (at_ l 4), dI (at_ l 5)⟩
def tt_fb_4 (D_fb_3 : AQ X_fb_3 R_fb) (x : X_fb_4) : TT Tryz.prog R_fb :=
 (.jump S_fb_3 D_fb_3 (X_fb_3.mk x.DV x.Fc x.Ga x.C1 x.Bf (IntKind.i64.wrap (x.G9 + 1))))
theorem sd_fb_4 (D_fb_3 : AQ X_fb_3 R_fb) (x : X_fb_4) : (tt_fb_4 D_fb_3 x).AH :=
 TT.sJ
def D_fb_4 (D_fb_3 : AQ X_fb_3 R_fb) : AQ X_fb_4 R_fb := .of (tt_fb_4 D_fb_3)
theorem ok_fb_4 (D_fb_3 : AQ X_fb_3 R_fb) (h_3 : AV J_fb S_fb_3 D_fb_3) : AV J_fb S_fb_4 (D_fb_4 D_fb_3) :=
 lk mxk (lbc h_3 rfl lbn) (sd_fb_4 D_fb_3)
def tt_fb_8 (D_fb_3 : AQ X_fb_3 R_fb) (x : X_fb_8) : TT Tryz.prog R_fb :=
 (.jump S_fb_4 (D_fb_4 D_fb_3) (X_fb_4.mk x.DV (IntKind.u64.wrap (Int.tdiv x.Fc 2)) (IntKind.u64.wrap (Int.tdiv x.Ga 2)) x.C1 (IntKind.u64.wrap (x.Bf * 2)) x.G9))
theorem sd_fb_8 (D_fb_3 : AQ X_fb_3 R_fb) (x : X_fb_8) : (tt_fb_8 D_fb_3 x).AH :=
 TT.sJ
def D_fb_8 (D_fb_3 : AQ X_fb_3 R_fb) : AQ X_fb_8 R_fb := .of (tt_fb_8 D_fb_3)
theorem ok_fb_8 (D_fb_3 : AQ X_fb_3 R_fb) (h_3 : AV J_fb S_fb_3 D_fb_3) : AV J_fb S_fb_8 (D_fb_8 D_fb_3) :=
 lk mxk (lbc h_3 rfl (lbc (ok_fb_4 D_fb_3 h_3) rfl lbn)) (sd_fb_8 D_fb_3)
def tt_fb_3 (D_fb_3 : AQ X_fb_3 R_fb) (x : X_fb_3) : TT Tryz.prog R_fb :=
 (.ite (BS x.G9 64)
 (.ite (AX x.DV 8)
 (.ite (AX (IntKind.u64.wrap ((Int.tmod x.Fc 2) + (Int.tmod x.Ga 2))) 2)
 (.jump S_fb_8 (D_fb_8 D_fb_3) (X_fb_8.mk x.DV x.Fc x.Ga (IntKind.u64.wrap (x.C1 + x.Bf)) x.Bf x.G9))
 (.ite (AX x.DV 9)
 (.ite (BS 0 (IntKind.u64.wrap ((Int.tmod x.Fc 2) + (Int.tmod x.Ga 2))))
 (.jump S_fb_8 (D_fb_8 D_fb_3) (X_fb_8.mk x.DV x.Fc x.Ga (IntKind.u64.wrap (x.C1 + x.Bf)) x.Bf x.G9))
 (.ite (AX x.DV 10)
 (.ite (AX (IntKind.u64.wrap ((Int.tmod x.Fc 2) + (Int.tmod x.Ga 2))) 1)
 (.jump S_fb_8 (D_fb_8 D_fb_3) (X_fb_8.mk x.DV x.Fc x.Ga (IntKind.u64.wrap (x.C1 + x.Bf)) x.Bf x.G9))
 (.jump S_fb_8 (D_fb_8 D_fb_3) (X_fb_8.mk x.DV x.Fc x.Ga x.C1 x.Bf x.G9)))
 (.jump S_fb_8 (D_fb_8 D_fb_3) (X_fb_8.mk x.DV x.Fc x.Ga x.C1 x.Bf x.G9))))
 (.ite (AX x.DV 10)
 (.ite (AX (IntKind.u64.wrap ((Int.tmod x.Fc 2) + (Int.tmod x.Ga 2))) 1)
 (.jump S_fb_8 (D_fb_8 D_fb_3) (X_fb_8.mk x.DV x.Fc x.Ga (IntKind.u64.wrap (x.C1 + x.Bf)) x.Bf x.G9))
 (.jump S_fb_8 (D_fb_8 D_fb_3) (X_fb_8.mk x.DV x.Fc x.Ga x.C1 x.Bf x.G9)))
 (.jump S_fb_8 (D_fb_8 D_fb_3) (X_fb_8.mk x.DV x.Fc x.Ga x.C1 x.Bf x.G9)))))
 (.ite (AX x.DV 9)
 (.ite (BS 0 (IntKind.u64.wrap ((Int.tmod x.Fc 2) + (Int.tmod x.Ga 2))))
 (.jump S_fb_8 (D_fb_8 D_fb_3) (X_fb_8.mk x.DV x.Fc x.Ga (IntKind.u64.wrap (x.C1 + x.Bf)) x.Bf x.G9))
 (.ite (AX x.DV 10)
 (.ite (AX (IntKind.u64.wrap ((Int.tmod x.Fc 2) + (Int.tmod x.Ga 2))) 1)
 (.jump S_fb_8 (D_fb_8 D_fb_3) (X_fb_8.mk x.DV x.Fc x.Ga (IntKind.u64.wrap (x.C1 + x.Bf)) x.Bf x.G9))
 (.jump S_fb_8 (D_fb_8 D_fb_3) (X_fb_8.mk x.DV x.Fc x.Ga x.C1 x.Bf x.G9)))
 (.jump S_fb_8 (D_fb_8 D_fb_3) (X_fb_8.mk x.DV x.Fc x.Ga x.C1 x.Bf x.G9))))
 (.ite (AX x.DV 10)
 (.ite (AX (IntKind.u64.wrap ((Int.tmod x.Fc 2) + (Int.tmod x.Ga 2))) 1)
 (.jump S_fb_8 (D_fb_8 D_fb_3) (X_fb_8.mk x.DV x.Fc x.Ga (IntKind.u64.wrap (x.C1 + x.Bf)) x.Bf x.G9))
 (.jump S_fb_8 (D_fb_8 D_fb_3) (X_fb_8.mk x.DV x.Fc x.Ga x.C1 x.Bf x.G9)))
 (.jump S_fb_8 (D_fb_8 D_fb_3) (X_fb_8.mk x.DV x.Fc x.Ga x.C1 x.Bf x.G9)))))
 (.ret x.C1))
theorem sd_fb_3 (D_fb_3 : AQ X_fb_3 R_fb) (x : X_fb_3) : (tt_fb_3 D_fb_3 x).AH :=
 (TT.sI (TT.sI (TT.sI TT.sJ (TT.sI (TT.sI TT.sJ (TT.sI (TT.sI TT.sJ TT.sJ) TT.sJ)) (TT.sI (TT.sI TT.sJ TT.sJ) TT.sJ))) (TT.sI (TT.sI TT.sJ (TT.sI (TT.sI TT.sJ TT.sJ) TT.sJ)) (TT.sI (TT.sI TT.sJ TT.sJ) TT.sJ))) TT.sR)
def D_fb_3 : AQ X_fb_3 R_fb := AQ.loop tt_fb_3
theorem ok_fb_3 : AV J_fb S_fb_3 D_fb_3 :=
 Az fun D_fb_3 h_3 => lk mxk (lbc h_3 rfl (lbc (ok_fb_4 D_fb_3 h_3) rfl (lbc (ok_fb_8 D_fb_3 h_3) rfl lbn))) (sd_fb_3 D_fb_3)
def tt_fb (x : X_fb) : TT Tryz.prog R_fb :=
 (.jump S_fb_3 D_fb_3 (X_fb_3.mk x.fst x.snd.fst x.snd.snd 0 1 0))
theorem sd_fb (x : X_fb) : (tt_fb x).AH :=
 TT.sJ
def D_fb : AQ X_fb R_fb := .of tt_fb
def con_fb : A3 Tryz.prog :=
 BZ 199 J_fb S_fb D_fb 3 0 [.any, .any, .any] (lk mxk (lbc ok_fb_3 rfl lbn) sd_fb)
abbrev X_fs : Type := Int × Int × Int
abbrev R_fs : Type := Int × Bool
def J_fs : A9 Tryz.prog :=
 BF Tryz.prog Tryz.f185 84 [] [] [] [] [.any, .any] [] [con_fb] R_fs [] fun y => [V.CC (V.cons ((V.int .u64) y.1) (V.cons (V.bool y.2) (V.unit)))]
def S_fs : AM :=
 Ae Tryz.f185 3 0 X_fs (fun x => [(V.int .i64) x.1, (V.int .u64) x.2.1, (V.int .u64) x.2.2]) fun l => (dI (at_ l 0), dI (at_ l 1), dI (at_ l 2))
structure X_fs_22 where
 Fc : Int
 Ga : Int
 i_8 : Int
def S_fs_22 : AM :=
 Ad Tryz.f185 22 (an [1, 2, 8]) [] [] X_fs_22 (fun x => [(V.int .u64) x.Fc, (V.int .u64) x.Ga, (V.int .u64) x.i_8]) fun l => ⟨dI (at_ l 0), dI (at_ l 1), dI (at_ l 2)⟩
structure X_fs_25 where
 Fc : Int
def S_fs_25 : AM :=
 Ad Tryz.f185 25 [(1, .any)] [] [] X_fs_25 (fun x => [(V.int .u64) x.Fc]) fun l => ⟨dI (at_ l 0)⟩
structure X_fs_28 where
 Fc : Int
 Ga : Int
 G9 : Int
def S_fs_28 : AM :=
 Ad Tryz.f185 28 (an [1, 2, 9]) [] [] X_fs_28 (fun x => [(V.int .u64) x.Fc, (V.int .u64) x.Ga, (V.int .u64) x.G9]) fun l => ⟨dI (at_ l 0), dI (at_ l 1), dI (at_ l 2)⟩
structure X_fs_31 where
 Fc : Int
def S_fs_31 : AM :=
 Ad Tryz.f185 31 [(1, .any)] [] [] X_fs_31 (fun x => [(V.int .u64) x.Fc]) fun l => ⟨dI (at_ l 0)⟩
def tt_fs_31 (x : X_fs_31) : TT Tryz.prog R_fs :=
 (.ret (x.Fc, true))
theorem sd_fs_31 (x : X_fs_31) : (tt_fs_31 x).AH :=
 TT.sR
def D_fs_31 : AQ X_fs_31 R_fs := .of tt_fs_31
theorem ok_fs_31 : AV J_fs S_fs_31 D_fs_31 :=
 lk mxk lbn sd_fs_31
def tt_fs_28 (D_fs_28 : AQ X_fs_28 R_fs) (x : X_fs_28) : TT Tryz.prog R_fs :=
 (.ite (BS x.G9 (Int.tmod x.Ga 64))
 (.jump S_fs_28 D_fs_28 (X_fs_28.mk (IntKind.u64.wrap (Int.tdiv x.Fc 2)) x.Ga (IntKind.u64.wrap (x.G9 + 1))))
 (.jump S_fs_31 D_fs_31 (X_fs_31.mk x.Fc)))
theorem sd_fs_28 (D_fs_28 : AQ X_fs_28 R_fs) (x : X_fs_28) : (tt_fs_28 D_fs_28 x).AH :=
 (TT.sI TT.sJ TT.sJ)
def D_fs_28 : AQ X_fs_28 R_fs := AQ.loop tt_fs_28
theorem ok_fs_28 : AV J_fs S_fs_28 D_fs_28 :=
 Az fun D_fs_28 h_28 => lk mxk (lbc h_28 rfl (lbc ok_fs_31 rfl lbn)) (sd_fs_28 D_fs_28)
def tt_fs_25 (x : X_fs_25) : TT Tryz.prog R_fs :=
 (.ret (x.Fc, true))
theorem sd_fs_25 (x : X_fs_25) : (tt_fs_25 x).AH :=
 TT.sR
def D_fs_25 : AQ X_fs_25 R_fs := .of tt_fs_25
theorem ok_fs_25 : AV J_fs S_fs_25 D_fs_25 :=
 lk mxk (lbc ok_fs_31 rfl (lbc ok_fs_28 rfl lbn)) sd_fs_25
def tt_fs_22 (D_fs_22 : AQ X_fs_22 R_fs) (x : X_fs_22) : TT Tryz.prog R_fs :=
 (.ite (BS x.i_8 (Int.tmod x.Ga 64))
 (.jump S_fs_22 D_fs_22 (X_fs_22.mk (IntKind.u64.wrap (x.Fc * 2)) x.Ga (IntKind.u64.wrap (x.i_8 + 1))))
 (.jump S_fs_25 D_fs_25 (X_fs_25.mk x.Fc)))
theorem sd_fs_22 (D_fs_22 : AQ X_fs_22 R_fs) (x : X_fs_22) : (tt_fs_22 D_fs_22 x).AH :=
 (TT.sI TT.sJ TT.sJ)
def D_fs_22 : AQ X_fs_22 R_fs := AQ.loop tt_fs_22
theorem ok_fs_22 : AV J_fs S_fs_22 D_fs_22 :=
 Az fun D_fs_22 h_22 => lk mxk (lbc h_22 rfl (lbc ok_fs_31 rfl (lbc ok_fs_28 rfl (lbc ok_fs_25 rfl lbn)))) (sd_fs_22 D_fs_22)
def tt_fs (x : X_fs) : TT Tryz.prog R_fs :=
 (.ite (AX x.fst 3)
 (.ret ((IntKind.u64.wrap (x.snd.fst + x.snd.snd)), true))
 (.ite (AX x.fst 4)
 (.ret ((IntKind.u64.wrap (x.snd.fst - x.snd.snd)), true))
 (.ite (AX x.fst 5)
 (.ret ((IntKind.u64.wrap (x.snd.fst * x.snd.snd)), true))
 (.ite (AX x.fst 6)
 (.ite (AX x.snd.snd 0)
 (.ret (0, true))
 (.need (!(AX x.snd.snd 0)) <|
 (.ret ((IntKind.u64.wrap (Int.tdiv x.snd.fst x.snd.snd)), true))))
 (.ite (AX x.fst 7)
 (.ite (AX x.snd.snd 0)
 (.ret (0, true))
 (.need (!(AX x.snd.snd 0)) <|
 (.ret ((IntKind.u64.wrap (x.snd.fst - (IntKind.u64.wrap ((IntKind.u64.wrap (Int.tdiv x.snd.fst x.snd.snd)) * x.snd.snd)))), true))))
 (.ite (AX x.fst 8)
 (.call con_fb x fun (y1 : R_fb) =>
 (.ret (y1, true)))
 (.ite (AX x.fst 9)
 (.call con_fb x fun (y1 : R_fb) =>
 (.ret (y1, true)))
 (.ite (AX x.fst 10)
 (.call con_fb x fun (y1 : R_fb) =>
 (.ret (y1, true)))
 (.ite (AX x.fst 11)
 (.jump S_fs_22 D_fs_22 (X_fs_22.mk x.snd.fst x.snd.snd 0))
 (.ite (AX x.fst 12)
 (.jump S_fs_28 D_fs_28 (X_fs_28.mk x.snd.fst x.snd.snd 0))
 (.ite (AX x.fst 13)
 (.ite (BS x.snd.fst x.snd.snd)
 (.ret (1, true))
 (.ret (0, true)))
 (.ite (AX x.fst 14)
 (.ite (AX x.snd.fst x.snd.snd)
 (.ret (1, true))
 (.ret (0, true)))
 (.ret (0, false))))))))))))))
theorem sd_fs (x : X_fs) : (tt_fs x).AH :=
 (TT.sI TT.sR (TT.sI TT.sR (TT.sI TT.sR (TT.sI (TT.sI TT.sR (TT.sN TT.sR)) (TT.sI (TT.sI TT.sR (TT.sN TT.sR)) (TT.sI (TT.sC fun _ => TT.sR) (TT.sI (TT.sC fun _ => TT.sR) (TT.sI (TT.sC fun _ => TT.sR) (TT.sI TT.sJ (TT.sI TT.sJ (TT.sI (TT.sI TT.sR TT.sR) (TT.sI (TT.sI TT.sR TT.sR) TT.sR))))))))))))
def D_fs : AQ X_fs R_fs := .of tt_fs
def con_fs : A3 Tryz.prog :=
 BZ 185 J_fs S_fs D_fs 3 0 [.any, .any, .any] (lk mxk (lbc ok_fs_31 rfl (lbc ok_fs_28 rfl (lbc ok_fs_25 rfl (lbc ok_fs_22 rfl lbn)))) sd_fs)
abbrev X_f3x : Type := (Sl TIn) × TTh
abbrev R_f3x : Type := TTh
def J_f3x : A9 Tryz.prog :=
 BF Tryz.prog Tryz.f157 100 [(8, 1), (78, 1)] [] [] [] [sh_TTh] [] [con_fs] R_f3x [] fun y => [e_TTh y]
def S_f3x : AM :=
 Ae Tryz.f157 2 0 X_f3x (fun x => [esl_TIn x.1, e_TTh x.2]) fun l => (dsl_TIn (at_ l 0), d_TTh (at_ l 1))
def tt_f3x (x : X_f3x) : TT Tryz.prog R_f3x :=
 (.need (A0 x.snd.At x.fst.n) <|
 (.ite (AX (x.fst.get (Int.toNat x.snd.At)).Op 1)
 (.need (A0 (x.fst.get (Int.toNat x.snd.At)).A 8) <|
 (.ret (TTh.mk (IntKind.i64.wrap (x.snd.At + 1)) x.snd.Phase x.snd.Ring x.snd.Status x.snd.AG (fun i1 => (cond (Nat.beq i1 (Int.toNat (x.fst.get (Int.toNat x.snd.At)).A)) (x.fst.get (Int.toNat x.snd.At)).K (x.snd.Af i1))) x.snd.Seen)))
 (.ite (AX (x.fst.get (Int.toNat x.snd.At)).Op 2)
 (.need (A0 (x.fst.get (Int.toNat x.snd.At)).B 8) <|
 (.need (A0 (x.fst.get (Int.toNat x.snd.At)).A 8) <|
 (.ret (TTh.mk (IntKind.i64.wrap (x.snd.At + 1)) x.snd.Phase x.snd.Ring x.snd.Status x.snd.AG (fun i1 => (cond (Nat.beq i1 (Int.toNat (x.fst.get (Int.toNat x.snd.At)).A)) (x.snd.Af (Int.toNat (x.fst.get (Int.toNat x.snd.At)).B)) (x.snd.Af i1))) x.snd.Seen))))
 (.ite (AX (x.fst.get (Int.toNat x.snd.At)).Op 15)
 (.ret (TTh.mk (IntKind.i64.wrap (x.fst.get (Int.toNat x.snd.At)).K) x.snd.Phase x.snd.Ring x.snd.Status x.snd.AG x.snd.Af x.snd.Seen))
 (.ite (AX (x.fst.get (Int.toNat x.snd.At)).Op 16)
 (.need (A0 (x.fst.get (Int.toNat x.snd.At)).A 8) <|
 (.ite (AX (x.snd.Af (Int.toNat (x.fst.get (Int.toNat x.snd.At)).A)) 0)
 (.ret (TTh.mk (IntKind.i64.wrap (x.fst.get (Int.toNat x.snd.At)).K) x.snd.Phase x.snd.Ring x.snd.Status x.snd.AG x.snd.Af x.snd.Seen))
 (.ite (AX (x.fst.get (Int.toNat x.snd.At)).Op 17)
 (.need (A0 (x.fst.get (Int.toNat x.snd.At)).A 8) <|
 (.ite (!(AX (x.snd.Af (Int.toNat (x.fst.get (Int.toNat x.snd.At)).A)) 0))
 (.ret (TTh.mk (IntKind.i64.wrap (x.fst.get (Int.toNat x.snd.At)).K) x.snd.Phase x.snd.Ring x.snd.Status x.snd.AG x.snd.Af x.snd.Seen))
 (.ite (BS (x.fst.get (Int.toNat x.snd.At)).Op 15)
 (.need (A0 (x.fst.get (Int.toNat x.snd.At)).B 8) <|
 (.need (A0 (x.fst.get (Int.toNat x.snd.At)).C 8) <|
 (.call con_fs ((x.fst.get (Int.toNat x.snd.At)).Op, ((x.snd.Af (Int.toNat (x.fst.get (Int.toNat x.snd.At)).B)), (x.snd.Af (Int.toNat (x.fst.get (Int.toNat x.snd.At)).C)))) fun (y1 : R_fs) =>
 (.need (A0 (x.fst.get (Int.toNat x.snd.At)).A 8) <|
 (.ret (TTh.mk (IntKind.i64.wrap (x.snd.At + 1)) x.snd.Phase x.snd.Ring x.snd.Status x.snd.AG (fun i2 => (cond (Nat.beq i2 (Int.toNat (x.fst.get (Int.toNat x.snd.At)).A)) y1.fst (x.snd.Af i2))) x.snd.Seen))))))
 (.ret (TTh.mk (IntKind.i64.wrap (x.snd.At + 1)) x.snd.Phase x.snd.Ring x.snd.Status x.snd.AG x.snd.Af x.snd.Seen)))))
 (.ite (BS (x.fst.get (Int.toNat x.snd.At)).Op 15)
 (.need (A0 (x.fst.get (Int.toNat x.snd.At)).B 8) <|
 (.need (A0 (x.fst.get (Int.toNat x.snd.At)).C 8) <|
 (.call con_fs ((x.fst.get (Int.toNat x.snd.At)).Op, ((x.snd.Af (Int.toNat (x.fst.get (Int.toNat x.snd.At)).B)), (x.snd.Af (Int.toNat (x.fst.get (Int.toNat x.snd.At)).C)))) fun (y1 : R_fs) =>
 (.need (A0 (x.fst.get (Int.toNat x.snd.At)).A 8) <|
 (.ret (TTh.mk (IntKind.i64.wrap (x.snd.At + 1)) x.snd.Phase x.snd.Ring x.snd.Status x.snd.AG (fun i2 => (cond (Nat.beq i2 (Int.toNat (x.fst.get (Int.toNat x.snd.At)).A)) y1.fst (x.snd.Af i2))) x.snd.Seen))))))
 (.ret (TTh.mk (IntKind.i64.wrap (x.snd.At + 1)) x.snd.Phase x.snd.Ring x.snd.Status x.snd.AG x.snd.Af x.snd.Seen))))))
 (.ite (AX (x.fst.get (Int.toNat x.snd.At)).Op 17)
 (.need (A0 (x.fst.get (Int.toNat x.snd.At)).A 8) <|
 (.ite (!(AX (x.snd.Af (Int.toNat (x.fst.get (Int.toNat x.snd.At)).A)) 0))
 (.ret (TTh.mk (IntKind.i64.wrap (x.fst.get (Int.toNat x.snd.At)).K) x.snd.Phase x.snd.Ring x.snd.Status x.snd.AG x.snd.Af x.snd.Seen))
 (.ite (BS (x.fst.get (Int.toNat x.snd.At)).Op 15)
 (.need (A0 (x.fst.get (Int.toNat x.snd.At)).B 8) <|
 (.need (A0 (x.fst.get (Int.toNat x.snd.At)).C 8) <|
 (.call con_fs ((x.fst.get (Int.toNat x.snd.At)).Op, ((x.snd.Af (Int.toNat (x.fst.get (Int.toNat x.snd.At)).B)), (x.snd.Af (Int.toNat (x.fst.get (Int.toNat x.snd.At)).C)))) fun (y1 : R_fs) =>
 (.need (A0 (x.fst.get (Int.toNat x.snd.At)).A 8) <|
 (.ret (TTh.mk (IntKind.i64.wrap (x.snd.At + 1)) x.snd.Phase x.snd.Ring x.snd.Status x.snd.AG (fun i2 => (cond (Nat.beq i2 (Int.toNat (x.fst.get (Int.toNat x.snd.At)).A)) y1.fst (x.snd.Af i2))) x.snd.Seen))))))
 (.ret (TTh.mk (IntKind.i64.wrap (x.snd.At + 1)) x.snd.Phase x.snd.Ring x.snd.Status x.snd.AG x.snd.Af x.snd.Seen)))))
 (.ite (BS (x.fst.get (Int.toNat x.snd.At)).Op 15)
 (.need (A0 (x.fst.get (Int.toNat x.snd.At)).B 8) <|
 (.need (A0 (x.fst.get (Int.toNat x.snd.At)).C 8) <|
 (.call con_fs ((x.fst.get (Int.toNat x.snd.At)).Op, ((x.snd.Af (Int.toNat (x.fst.get (Int.toNat x.snd.At)).B)), (x.snd.Af (Int.toNat (x.fst.get (Int.toNat x.snd.At)).C)))) fun (y1 : R_fs) =>
 (.need (A0 (x.fst.get (Int.toNat x.snd.At)).A 8) <|
 (.ret (TTh.mk (IntKind.i64.wrap (x.snd.At + 1)) x.snd.Phase x.snd.Ring x.snd.Status x.snd.AG (fun i2 => (cond (Nat.beq i2 (Int.toNat (x.fst.get (Int.toNat x.snd.At)).A)) y1.fst (x.snd.Af i2))) x.snd.Seen))))))
 (.ret (TTh.mk (IntKind.i64.wrap (x.snd.At + 1)) x.snd.Phase x.snd.Ring x.snd.Status x.snd.AG x.snd.Af x.snd.Seen)))))))))
theorem sd_f3x (x : X_f3x) : (tt_f3x x).AH :=
 (TT.sN (TT.sI (TT.sN TT.sR) (TT.sI (TT.sN (TT.sN TT.sR)) (TT.sI TT.sR (TT.sI (TT.sN (TT.sI TT.sR (TT.sI (TT.sN (TT.sI TT.sR (TT.sI (TT.sN (TT.sN (TT.sC fun _ => (TT.sN TT.sR)))) TT.sR))) (TT.sI (TT.sN (TT.sN (TT.sC fun _ => (TT.sN TT.sR)))) TT.sR)))) (TT.sI (TT.sN (TT.sI TT.sR (TT.sI (TT.sN (TT.sN (TT.sC fun _ => (TT.sN TT.sR)))) TT.sR))) (TT.sI (TT.sN (TT.sN (TT.sC fun _ => (TT.sN TT.sR)))) TT.sR)))))))
def D_f3x : AQ X_f3x R_f3x := .of tt_f3x
def con_f3x : A3 Tryz.prog :=
 BZ 157 J_f3x S_f3x D_f3x 2 0 [hsl_TIn, sh_TTh] (lk mxk lbn sd_f3x)
structure TA6 where
 Kind : Int
 Ring : Int
 Mode : Int
 Reader : Int
 AG : Int
 Value : Int
def d_TA6 (v : V) : TA6 :=
 ⟨dI (fd v 0), dI (fd v 1), dI (fd v 2), dI (fd v 3), dI (fd v 4), dI (fd v 5)⟩
def e_TA6 (x : TA6) : V :=
 V.cons ((V.int .i64) x.Kind) (V.cons ((V.int .i64) x.Ring) (V.cons ((V.int .i64) x.Mode) (V.cons ((V.int .i64) x.Reader) (V.cons ((V.int .u64) x.AG) (V.cons ((V.int .u64) x.Value) (V.unit))))))
theorem nu_e_TA6 (x : TA6) : (e_TA6 x).CV := ⟨trivial, trivial, trivial, trivial, trivial, trivial, trivial⟩
abbrev X_fk : Type := (Sl TIn) × TTh
abbrev R_fk : Type := TTh × TA6
def J_fk : A9 Tryz.prog :=
 BF Tryz.prog Tryz.f122 138 [(21, 1), (39, 1), (77, 1)] [] [] [] [sh_TTh, .any] [] [con_f3x] R_fk [] fun y => [V.CC (V.cons (e_TTh y.1) (V.cons (e_TA6 y.2) (V.unit)))]
def S_fk : AM :=
 Ae Tryz.f122 2 0 X_fk (fun x => [esl_TIn x.1, e_TTh x.2]) fun l => (dsl_TIn (at_ l 0), d_TTh (at_ l 1))
structure X_fk_8 where
 Bk : (Sl TIn)
 C9 : Int
 BG : TTh
 Bt : TTh
 BA : TA6
def S_fk_8 : AM :=
 Ad Tryz.f122 8 [(0, hsl_TIn), (3, .any), (4, .any), (5, .any), (6, .any)] [] [(.loc 3 0, sh_TTh), (.loc 4 0, sh_TTh), (.loc 5 0, .any)] X_fk_8 (fun x => [esl_TIn x.Bk, (V.ptr (.loc 3 0) []), (V.ptr (.loc 4 0) []), (V.ptr (.loc 5 0) []), (V.int .i64) x.C9, e_TTh x.BG, e_TTh x.Bt, e_TA6 x.BA]) fun l => ⟨dsl_TIn (at_ l 0), dI (at_ l 4), d_TTh (at_ l 5), d_TTh (at_ l 6), d_TA6 (at_ l 7)⟩
structure X_fk_10 where
 Bk : (Sl TIn)
 C9 : Int
 BG : TTh
 Bt : TTh
 BA : TA6
def S_fk_10 : AM :=
 Ad Tryz.f122 10 [(0, hsl_TIn), (3, .any), (4, .any), (5, .any), (6, .any)] [] [(.loc 3 0, sh_TTh), (.loc 4 0, sh_TTh), (.loc 5 0, .any)] X_fk_10 (fun x => [esl_TIn x.Bk, (V.ptr (.loc 3 0) []), (V.ptr (.loc 4 0) []), (V.ptr (.loc 5 0) []), (V.int .i64) x.C9, e_TTh x.BG, e_TTh x.Bt, e_TA6 x.BA]) fun l => ⟨dsl_TIn (at_ l 0), dI (at_ l 4), d_TTh (at_ l 5), d_TTh (at_ l 6), d_TA6 (at_ l 7)⟩
structure X_fk_11 where
 Bk : (Sl TIn)
 BG : TTh
 Bt : TTh
 BA : TA6
def S_fk_11 : AM :=
 Ad Tryz.f122 11 [(0, hsl_TIn), (3, .any), (4, .any), (5, .any)] [] [(.loc 3 0, sh_TTh), (.loc 4 0, sh_TTh), (.loc 5 0, .any)] X_fk_11 (fun x => [esl_TIn x.Bk, (V.ptr (.loc 3 0) []), (V.ptr (.loc 4 0) []), (V.ptr (.loc 5 0) []), e_TTh x.BG, e_TTh x.Bt, e_TA6 x.BA]) fun l => ⟨dsl_TIn (at_ l 0), d_TTh (at_ l 4), d_TTh (at_ l 5), d_TA6 (at_ l 6)⟩
def tt_fk_11 (x : X_fk_11) : TT Tryz.prog R_fk :=
 (.ite (AX x.BG.At ((x.Bk.n : Nat) : Int))
 (.ret (x.BG, (TA6.mk 8 0 0 0 0 0)))
 (.need (A0 x.BG.At x.Bk.n) <|
 (.ite (AX (x.Bk.get (Int.toNat x.BG.At)).Op 18)
 (.need (A0 (x.Bk.get (Int.toNat x.BG.At)).A 8) <|
 (.ret (x.BG, (TA6.mk 1 (x.Bk.get (Int.toNat x.BG.At)).C (x.Bk.get (Int.toNat x.BG.At)).D 0 0 (x.BG.Af (Int.toNat (x.Bk.get (Int.toNat x.BG.At)).A))))))
 (.ite (AX (x.Bk.get (Int.toNat x.BG.At)).Op 19)
 (.ret (x.BG, (TA6.mk 2 (x.Bk.get (Int.toNat x.BG.At)).C (x.Bk.get (Int.toNat x.BG.At)).D (IntKind.i64.wrap (x.Bk.get (Int.toNat x.BG.At)).K) 0 0)))
 (.ite (AX (x.Bk.get (Int.toNat x.BG.At)).Op 20)
 (.ret (x.BG, (TA6.mk 3 (x.Bk.get (Int.toNat x.BG.At)).C 0 0 0 0)))
 (.ite (AX (x.Bk.get (Int.toNat x.BG.At)).Op 21)
 (.ret (x.BG, (TA6.mk (IntKind.i64.wrap ((x.Bk.get (Int.toNat x.BG.At)).Op - 17)) 0 0 0 0 0)))
 (.ite (AX (x.Bk.get (Int.toNat x.BG.At)).Op 22)
 (.ret (x.BG, (TA6.mk (IntKind.i64.wrap ((x.Bk.get (Int.toNat x.BG.At)).Op - 17)) 0 0 0 0 0)))
 (.ite (AX (x.Bk.get (Int.toNat x.BG.At)).Op 23)
 (.ret (x.BG, (TA6.mk (IntKind.i64.wrap ((x.Bk.get (Int.toNat x.BG.At)).Op - 17)) 0 0 0 0 0)))
 (.ite (AX (x.Bk.get (Int.toNat x.BG.At)).Op 24)
 (.need (A0 (x.Bk.get (Int.toNat x.BG.At)).A 8) <|
 (.ret (x.BG, (TA6.mk 7 0 0 0 0 (x.BG.Af (Int.toNat (x.Bk.get (Int.toNat x.BG.At)).A))))))
 (.ite (AX (x.Bk.get (Int.toNat x.BG.At)).Op 25)
 (.ret (x.BG, (TA6.mk 8 0 0 0 0 0)))
 (.ret (x.BG, (TA6.mk 9 0 0 0 0 0)))))))))))))
theorem sd_fk_11 (x : X_fk_11) : (tt_fk_11 x).AH :=
 (TT.sI TT.sR (TT.sN (TT.sI (TT.sN TT.sR) (TT.sI TT.sR (TT.sI TT.sR (TT.sI TT.sR (TT.sI TT.sR (TT.sI TT.sR (TT.sI (TT.sN TT.sR) (TT.sI TT.sR TT.sR))))))))))
def D_fk_11 : AQ X_fk_11 R_fk := .of tt_fk_11
theorem ok_fk_11 : AV J_fk S_fk_11 D_fk_11 :=
 lk mxk lbn sd_fk_11
def tt_fk_10 (D_fk_8 : AQ X_fk_8 R_fk) (x : X_fk_10) : TT Tryz.prog R_fk :=
 (.call con_f3x (x.Bk, x.BG) fun (y2 : R_f3x) =>
 (.jump S_fk_8 D_fk_8 (X_fk_8.mk x.Bk (IntKind.i64.wrap (x.C9 + 1)) y2 x.Bt x.BA)))
theorem sd_fk_10 (D_fk_8 : AQ X_fk_8 R_fk) (x : X_fk_10) : (tt_fk_10 D_fk_8 x).AH :=
 (TT.sC fun _ => TT.sJ)
def D_fk_10 (D_fk_8 : AQ X_fk_8 R_fk) : AQ X_fk_10 R_fk := .of (tt_fk_10 D_fk_8)
theorem ok_fk_10 (D_fk_8 : AQ X_fk_8 R_fk) (h_8 : AV J_fk S_fk_8 D_fk_8) : AV J_fk S_fk_10 (D_fk_10 D_fk_8) :=
 lk mxk (lbc h_8 rfl (lbc ok_fk_11 rfl lbn)) (sd_fk_10 D_fk_8)
def tt_fk_8 (D_fk_8 : AQ X_fk_8 R_fk) (x : X_fk_8) : TT Tryz.prog R_fk :=
 (.ite (BS x.C9 256)
 (.ite (BS x.BG.At ((x.Bk.n : Nat) : Int))
 (.need (A0 x.BG.At x.Bk.n) <|
 (.ite (Bd (x.Bk.get (Int.toNat x.BG.At)).Op 17)
 (.jump S_fk_10 (D_fk_10 D_fk_8) (X_fk_10.mk x.Bk x.C9 x.BG x.Bt x.BA))
 (.jump S_fk_11 D_fk_11 (X_fk_11.mk x.Bk x.BG x.Bt x.BA))))
 (.jump S_fk_11 D_fk_11 (X_fk_11.mk x.Bk x.BG x.Bt x.BA)))
 (.jump S_fk_11 D_fk_11 (X_fk_11.mk x.Bk x.BG x.Bt x.BA)))
theorem sd_fk_8 (D_fk_8 : AQ X_fk_8 R_fk) (x : X_fk_8) : (tt_fk_8 D_fk_8 x).AH :=
 (TT.sI (TT.sI (TT.sN (TT.sI TT.sJ TT.sJ)) TT.sJ) TT.sJ)
def D_fk_8 : AQ X_fk_8 R_fk := AQ.loop tt_fk_8
theorem ok_fk_8 : AV J_fk S_fk_8 D_fk_8 :=
 Az fun D_fk_8 h_8 => lk mxk (lbc h_8 rfl (lbc ok_fk_11 rfl (lbc (ok_fk_10 D_fk_8 h_8) rfl lbn))) (sd_fk_8 D_fk_8)
def tt_fk (x : X_fk) : TT Tryz.prog R_fk :=
 (.ite (!(AX x.snd.Status 0))
 (.ret (x.snd, (TA6.mk 0 0 0 0 0 0)))
 (.ite (AX x.snd.Phase 1)
 (.need (A0 x.snd.At x.fst.n) <|
 (.need (A0 (x.fst.get (Int.toNat x.snd.At)).A 8) <|
 (.ret (x.snd, (TA6.mk 10 x.snd.Ring 0 0 x.snd.AG (x.snd.Af (Int.toNat (x.fst.get (Int.toNat x.snd.At)).A)))))))
 (.ite (AX x.snd.Phase 2)
 (.need (A0 x.snd.At x.fst.n) <|
 (.ret (x.snd, (TA6.mk 11 x.snd.Ring 0 (IntKind.i64.wrap (x.fst.get (Int.toNat x.snd.At)).K) x.snd.AG 0))))
 (.jump S_fk_8 D_fk_8 (X_fk_8.mk x.fst 0 x.snd (TTh.mk 0 0 0 0 0 (fun _i1 => (0 : Int)) (Sl.mk true 0 (fun _i1 => (0 : Int)))) (TA6.mk 0 0 0 0 0 0))))))
theorem sd_fk (x : X_fk) : (tt_fk x).AH :=
 (TT.sI TT.sR (TT.sI (TT.sN (TT.sN TT.sR)) (TT.sI (TT.sN TT.sR) TT.sJ)))
def D_fk : AQ X_fk R_fk := .of tt_fk
def con_fk : A3 Tryz.prog :=
 BZ 122 J_fk S_fk D_fk 2 0 [hsl_TIn, sh_TTh] (lk mxk (lbc ok_fk_11 rfl (lbc ok_fk_8 rfl lbn)) sd_fk)
abbrev X_f4a : Type := TPg × TSt × Int
abbrev R_f4a : Type := TA6
def J_f4a : A9 Tryz.prog :=
 BF Tryz.prog Tryz.f77 24 [(3, 3), (4, 3), (9, 1)] [] [] [] [.any] [] [con_fk] R_f4a [] fun y => [e_TA6 y]
def S_f4a : AM :=
 Ae Tryz.f77 3 0 X_f4a (fun x => [e_TPg x.1, e_TSt x.2.1, (V.int .i64) x.2.2]) fun l => (d_TPg (at_ l 0), d_TSt (at_ l 1), dI (at_ l 2))
def tt_f4a (x : X_f4a) : TT Tryz.prog R_f4a :=
 (.need (A0 x.snd.snd x.fst.AB.n) <|
 (.need (A0 x.snd.snd x.snd.fst.AB.n) <|
 (.call con_fk ((x.fst.AB.get (Int.toNat x.snd.snd)), (x.snd.fst.AB.get (Int.toNat x.snd.snd))) fun (y1 : R_fk) =>
 (.ret y1.snd))))
theorem sd_f4a (x : X_f4a) : (tt_f4a x).AH :=
 (TT.sN (TT.sN (TT.sC fun _ => TT.sR)))
def D_f4a : AQ X_f4a R_f4a := .of tt_f4a
def con_f4a : A3 Tryz.prog :=
 BZ 77 J_f4a S_f4a D_f4a 3 0 [sh_TPg, sh_TSt, .any] (lk mxk lbn sd_f4a)
abbrev X_f2s : Type := TA6 × TEv
abbrev R_f2s : Type := Bool
def J_f2s : A9 Tryz.prog :=
 BF Tryz.prog Tryz.f119 166 [(2, 3), (3, 3)] [] [] [] [.any] [] [] R_f2s [] fun y => [V.bool y]
def S_f2s : AM :=
 Ae Tryz.f119 2 0 X_f2s (fun x => [e_TA6 x.1, e_TEv x.2]) fun l => (d_TA6 (at_ l 0), d_TEv (at_ l 1))
structure X_f2s_2 where
 FE : TA6
 DG : TEv
 PZ : Bool
def S_f2s_2 : AM :=
 Ad Tryz.f119 2 (an [2, 3, 5]) [] [] X_f2s_2 (fun x => [(CR e_TA6) x.FE, (CR e_TEv) x.DG, V.bool x.PZ]) fun l => ⟨(CS d_TA6) (at_ l 0), (CS d_TEv) (at_ l 1), dB (at_ l 2)⟩
def tt_f2s_2 (x : X_f2s_2) : TT Tryz.prog R_f2s :=
 (.ite (AX x.DG.Kind 1)
 (.ite (AX x.FE.Kind 1)
 (.ret (AX x.FE.Ring x.DG.Ring))
 (.ret false))
 (.ite (AX x.DG.Kind 2)
 (.ite (AX x.FE.Kind 10)
 (.ite (AX x.FE.Ring x.DG.Ring)
 (.ret (AX x.FE.AG x.DG.AG))
 (.ret false))
 (.ret false))
 (.ite (AX x.DG.Kind 3)
 (.ite (AX x.FE.Kind 2)
 (.ret (AX x.FE.Ring x.DG.Ring))
 (.ret false))
 (.ite (AX x.DG.Kind 4)
 (.ite (AX x.FE.Kind 11)
 (.ite (AX x.FE.Ring x.DG.Ring)
 (.ret (AX x.FE.AG x.DG.AG))
 (.ret false))
 (.ret false))
 (.ite (AX x.DG.Kind 5)
 (.ite x.PZ
 (.ite (AX x.FE.Mode 0)
 (.ret (AX x.FE.Ring x.DG.Ring))
 (.ret false))
 (.ret false))
 (.ite (AX x.DG.Kind 6)
 (.ite x.PZ
 (.ret (AX x.FE.Ring x.DG.Ring))
 (.ret false))
 (.ite (AX x.DG.Kind 7)
 (.ite x.PZ
 (.ite (AX x.FE.Mode 2)
 (.ret (AX x.FE.Ring x.DG.Ring))
 (.ret false))
 (.ret false))
 (.ite (AX x.DG.Kind 8)
 (.ret (AX x.FE.Kind 4))
 (.ite (AX x.DG.Kind 9)
 (.ret (AX x.FE.Kind 5))
 (.ite (AX x.DG.Kind 10)
 (.ret (AX x.FE.Kind 6))
 (.ite (AX x.DG.Kind 11)
 (.ret (AX x.FE.Kind 6))
 (.ite (AX x.DG.Kind 12)
 (.ite (AX x.FE.Kind 7)
 (.ret (AX x.FE.Value x.DG.Value))
 (.ret false))
 (.ite (AX x.DG.Kind 13)
 (.ite (AX x.FE.Kind 3)
 (.ret (AX x.FE.Ring x.DG.Ring))
 (.ret false))
 (.ite (AX x.DG.Kind 14)
 (.ret (AX x.FE.Kind 8))
 (.ret (AX x.FE.Kind 9))))))))))))))))
theorem sd_f2s_2 (x : X_f2s_2) : (tt_f2s_2 x).AH :=
 (TT.sI (TT.sI TT.sR TT.sR) (TT.sI (TT.sI (TT.sI TT.sR TT.sR) TT.sR) (TT.sI (TT.sI TT.sR TT.sR) (TT.sI (TT.sI (TT.sI TT.sR TT.sR) TT.sR) (TT.sI (TT.sI (TT.sI TT.sR TT.sR) TT.sR) (TT.sI (TT.sI TT.sR TT.sR) (TT.sI (TT.sI (TT.sI TT.sR TT.sR) TT.sR) (TT.sI TT.sR (TT.sI TT.sR (TT.sI TT.sR (TT.sI TT.sR (TT.sI (TT.sI TT.sR TT.sR) (TT.sI (TT.sI TT.sR TT.sR) (TT.sI TT.sR TT.sR))))))))))))))
def D_f2s_2 : AQ X_f2s_2 R_f2s := .of tt_f2s_2
theorem ok_f2s_2 : AV J_f2s S_f2s_2 D_f2s_2 :=
 lk mxk lbn sd_f2s_2
def tt_f2s (x : X_f2s) : TT Tryz.prog R_f2s :=
 (.ite (AX x.fst.Kind 1)
 (.jump S_f2s_2 D_f2s_2 (X_f2s_2.mk x.fst x.snd true))
 (.jump S_f2s_2 D_f2s_2 (X_f2s_2.mk x.fst x.snd (AX x.fst.Kind 2))))
theorem sd_f2s (x : X_f2s) : (tt_f2s x).AH :=
 (TT.sI TT.sJ TT.sJ)
def D_f2s : AQ X_f2s R_f2s := .of tt_f2s
def con_f2s : A3 Tryz.prog :=
 BZ 119 J_f2s S_f2s D_f2s 2 0 [.any, .any] (lk mxk (lbc ok_f2s_2 rfl lbn) sd_f2s)
abbrev X_f3y : Type := TPg × TSt × TEv
abbrev R_f3y : Type := Int
def J_f3y : A9 Tryz.prog :=
 BF Tryz.prog Tryz.f74 31 [(3, 3), (4, 3), (5, 3)] [] [] [] [.any] [] [con_f2j, con_f2s, con_f4a] R_f3y [] fun y => [(V.int .i64) y]
def S_f3y : AM :=
 Ae Tryz.f74 3 0 X_f3y (fun x => [e_TPg x.1, e_TSt x.2.1, e_TEv x.2.2]) fun l => (d_TPg (at_ l 0), d_TSt (at_ l 1), d_TEv (at_ l 2))
def tt_f3y (x : X_f3y) : TT Tryz.prog R_f3y :=
 (.call con_f2j x.snd.snd fun (y1 : R_f2j) =>
 (.ite (!y1)
 (.ret 3)
 (.ite (Bd ((x.snd.fst.AB.n : Nat) : Int) x.snd.snd.Thread)
 (.ret 5)
 (.call con_f4a (x.fst, (x.snd.fst, x.snd.snd.Thread)) fun (y2 : R_f4a) =>
 (.ite (AX y2.Kind 0)
 (.ret 11)
 (.call con_f2s (y2, x.snd.snd) fun (y3 : R_f2s) =>
 (.ite (!y3)
 (.ret 11)
 (.ret 0))))))))
theorem sd_f3y (x : X_f3y) : (tt_f3y x).AH :=
 (TT.sC fun _ => (TT.sI TT.sR (TT.sI TT.sR (TT.sC fun _ => (TT.sI TT.sR (TT.sC fun _ => (TT.sI TT.sR TT.sR)))))))
def D_f3y : AQ X_f3y R_f3y := .of tt_f3y
def con_f3y : A3 Tryz.prog :=
 BZ 74 J_f3y S_f3y D_f3y 3 0 [sh_TPg, sh_TSt, .any] (lk mxk lbn sd_f3y)
abbrev X_f4i : Type := TRg × TRs
abbrev R_f4i : Type := TR3
def J_f4i : A9 Tryz.prog :=
 BF Tryz.prog Tryz.f158 24 [(2, 3), (3, 3)] [] [] [] [sh_TR3] [] [] R_f4i [] fun y => [e_TR3 y]
def S_f4i : AM :=
 Ae Tryz.f158 2 0 X_f4i (fun x => [e_TRg x.1, e_TRs x.2]) fun l => (d_TRg (at_ l 0), d_TRs (at_ l 1))
def tt_f4i (x : X_f4i) : TT Tryz.prog R_f4i :=
 (.need (true && (room ((0 : Nat) + x.snd.AY.n) 8)) <|
 (.need (true && (room ((0 : Nat) + x.snd.Ao.n) 24)) <|
 (.ret (TR3.mk (IntKind.u64.wrap x.fst.Cn) x.snd.Aq (Sl.mk (cond (Nat.beq x.snd.AY.n 0) false false) ((0 : Nat) + x.snd.AY.n) (fun i1 => (cond (Nat.blt i1 0) (0 : Int) (x.snd.AY.get (i1 - 0))))) x.snd.Aw (TR2.mk (Sl.mk (cond (Nat.beq x.snd.Ao.n 0) false false) ((0 : Nat) + x.snd.Ao.n) (fun i1 => (TSo.mk (cond (Nat.blt i1 0) (0 : Int) (x.snd.Ao.get (i1 - 0)).AO) (cond (Nat.blt i1 0) (0 : Int) (x.snd.Ao.get (i1 - 0)).Value) (cond (Nat.blt i1 0) (0 : Int) (x.snd.Ao.get (i1 - 0)).Left)))) x.fst.AU)))))
theorem sd_f4i (x : X_f4i) : (tt_f4i x).AH :=
 (TT.sN (TT.sN TT.sR))
def D_f4i : AQ X_f4i R_f4i := .of tt_f4i
def con_f4i : A3 Tryz.prog :=
 BZ 158 J_f4i S_f4i D_f4i 2 0 [.any, sh_TRs] (lk mxk lbn sd_f4i)
abbrev X_f3s : Type := TPg × TSt × Int
abbrev R_f3s : Type := TR3
def J_f3s : A9 Tryz.prog :=
 BF Tryz.prog Tryz.f123 18 [(3, 3), (4, 3)] [] [] [] [sh_TR3] [] [con_f4i] R_f3s [] fun y => [e_TR3 y]
def S_f3s : AM :=
 Ae Tryz.f123 3 0 X_f3s (fun x => [e_TPg x.1, e_TSt x.2.1, (V.int .i64) x.2.2]) fun l => (d_TPg (at_ l 0), d_TSt (at_ l 1), dI (at_ l 2))
def tt_f3s (x : X_f3s) : TT Tryz.prog R_f3s :=
 (.need (A0 x.snd.snd x.fst.AJ.n) <|
 (.need (A0 x.snd.snd x.snd.fst.AJ.n) <|
 (.call con_f4i ((x.fst.AJ.get (Int.toNat x.snd.snd)), (x.snd.fst.AJ.get (Int.toNat x.snd.snd))) fun (y1 : R_f4i) =>
 (.ret y1))))
theorem sd_f3s (x : X_f3s) : (tt_f3s x).AH :=
 (TT.sN (TT.sN (TT.sC fun _ => TT.sR)))
def D_f3s : AQ X_f3s R_f3s := .of tt_f3s
def con_f3s : A3 Tryz.prog :=
 BZ 123 J_f3s S_f3s D_f3s 3 0 [sh_TPg, sh_TSt, .any] (lk mxk lbn sd_f3s)
abbrev X_fr : Type := (Sl Int)
abbrev R_fr : Type := Int
def J_fr : A9 Tryz.prog :=
 BF Tryz.prog Tryz.f184 25 [] [] [] [] [.any] [] [] R_fr [] fun y => [(V.int .u64) y]
def S_fr : AM :=
 Ae Tryz.f184 1 0 X_fr (fun x => [EU x]) fun l => (FO (at_ l 0))
structure X_fr_3 where
 Bk : (Sl Int)
 Qg : Int
 Ek : Int
def S_fr_3 : AM :=
 Ad Tryz.f184 3 [(0, Ep), (3, .any), (4, .any)] [] [] X_fr_3 (fun x => [EU x.Bk, (V.int .u64) x.Qg, (V.int .i64) x.Ek]) fun l => ⟨FO (at_ l 0), dI (at_ l 1), dI (at_ l 2)⟩
structure X_fr_4 where
 Bk : (Sl Int)
 Qg : Int
 Ek : Int
def S_fr_4 : AM :=
 Ad Tryz.f184 4 [(0, Ep), (3, .any), (4, .any)] [] [] X_fr_4 (fun x => [EU x.Bk, (V.int .u64) x.Qg, (V.int .i64) x.Ek]) fun l => ⟨FO (at_ l 0), dI (at_ l 1), dI (at_ l 2)⟩
def tt_fr_4 (D_fr_3 : AQ X_fr_3 R_fr) (x : X_fr_4) : TT Tryz.prog R_fr :=
 (.jump S_fr_3 D_fr_3 (X_fr_3.mk x.Bk x.Qg (IntKind.i64.wrap (x.Ek + 1))))
theorem sd_fr_4 (D_fr_3 : AQ X_fr_3 R_fr) (x : X_fr_4) : (tt_fr_4 D_fr_3 x).AH :=
 TT.sJ
def D_fr_4 (D_fr_3 : AQ X_fr_3 R_fr) : AQ X_fr_4 R_fr := .of (tt_fr_4 D_fr_3)
theorem ok_fr_4 (D_fr_3 : AQ X_fr_3 R_fr) (h_3 : AV J_fr S_fr_3 D_fr_3) : AV J_fr S_fr_4 (D_fr_4 D_fr_3) :=
 lk mxk (lbc h_3 rfl lbn) (sd_fr_4 D_fr_3)
def tt_fr_3 (D_fr_3 : AQ X_fr_3 R_fr) (x : X_fr_3) : TT Tryz.prog R_fr :=
 (.ite (BS x.Ek ((x.Bk.n : Nat) : Int))
 (.need (A0 x.Ek x.Bk.n) <|
 (.ite (BS (x.Bk.get (Int.toNat x.Ek)) x.Qg)
 (.need (A0 x.Ek x.Bk.n) <|
 (.jump S_fr_4 (D_fr_4 D_fr_3) (X_fr_4.mk x.Bk (x.Bk.get (Int.toNat x.Ek)) x.Ek)))
 (.jump S_fr_4 (D_fr_4 D_fr_3) (X_fr_4.mk x.Bk x.Qg x.Ek))))
 (.ret x.Qg))
theorem sd_fr_3 (D_fr_3 : AQ X_fr_3 R_fr) (x : X_fr_3) : (tt_fr_3 D_fr_3 x).AH :=
 (TT.sI (TT.sN (TT.sI (TT.sN TT.sJ) TT.sJ)) TT.sR)
def D_fr_3 : AQ X_fr_3 R_fr := AQ.loop tt_fr_3
theorem ok_fr_3 : AV J_fr S_fr_3 D_fr_3 :=
 Az fun D_fr_3 h_3 => lk mxk (lbc h_3 rfl (lbc (ok_fr_4 D_fr_3 h_3) rfl lbn)) (sd_fr_3 D_fr_3)
def tt_fr (x : X_fr) : TT Tryz.prog R_fr :=
 (.need (A0 0 x.n) <|
 (.jump S_fr_3 D_fr_3 (X_fr_3.mk x (x.get (Int.toNat 0)) 0)))
theorem sd_fr (x : X_fr) : (tt_fr x).AH :=
 (TT.sN TT.sJ)
def D_fr : AQ X_fr R_fr := .of tt_fr
def con_fr : A3 Tryz.prog :=
 BZ 184 J_fr S_fr D_fr 1 0 [Ep] (lk mxk (lbc ok_fr_3 rfl lbn) sd_fr)
abbrev X_f3v : Type := TR3
abbrev R_f3v : Type := Bool
def J_f3v : A9 Tryz.prog :=
 BF Tryz.prog Tryz.f155 12 [(1, 3)] [] [] [] [.any] [] [con_fr] R_f3v [] fun y => [V.bool y]
def S_f3v : AM :=
 Ae Tryz.f155 1 0 X_f3v (fun x => [e_TR3 x]) fun l => (d_TR3 (at_ l 0))
def tt_f3v (x : X_f3v) : TT Tryz.prog R_f3v :=
 (.call con_fr x.AY fun (y1 : R_fr) =>
 (.ret (Bd x.Cn (IntKind.u64.wrap (x.Aq - y1)))))
theorem sd_f3v (x : X_f3v) : (tt_f3v x).AH :=
 (TT.sC fun _ => TT.sR)
def D_f3v : AQ X_f3v R_f3v := .of tt_f3v
def con_f3v : A3 Tryz.prog :=
 BZ 155 J_f3v S_f3v D_f3v 1 0 [sh_TR3] (lk mxk lbn sd_f3v)
abbrev X_f2c : Type := Int
abbrev R_f2c : Type := Int
def J_f2c : A9 Tryz.prog :=
 BF Tryz.prog Tryz.f187 14 [] [] [] [] [.any] [] [] R_f2c [] fun y => [(V.int .i64) y]
def S_f2c : AM :=
 Ae Tryz.f187 1 0 X_f2c (fun x => [(V.int .i64) x]) fun l => (dI (at_ l 0))
structure X_f2c_3 where
 Il : Int
 Qg : Int
 Ek : Int
def S_f2c_3 : AM :=
 Ad Tryz.f187 3 (an [0, 3, 4]) [] [] X_f2c_3 (fun x => [(V.int .i64) x.Il, (V.int .i64) x.Qg, (V.int .i64) x.Ek]) fun l => ⟨dI (at_ l 0), dI (at_ l 1), dI (at_ l 2)⟩
def tt_f2c_3 (D_f2c_3 : AQ X_f2c_3 R_f2c) (x : X_f2c_3) : TT Tryz.prog R_f2c :=
 (.ite (BS x.Ek x.Il)
 (.jump S_f2c_3 D_f2c_3 (X_f2c_3.mk x.Il (IntKind.i64.wrap ((2 : Int) * x.Qg)) (IntKind.i64.wrap (x.Ek + 1))))
 (.ret (IntKind.i64.wrap (x.Qg - 1))))
theorem sd_f2c_3 (D_f2c_3 : AQ X_f2c_3 R_f2c) (x : X_f2c_3) : (tt_f2c_3 D_f2c_3 x).AH :=
 (TT.sI TT.sJ TT.sR)
def D_f2c_3 : AQ X_f2c_3 R_f2c := AQ.loop tt_f2c_3
theorem ok_f2c_3 : AV J_f2c S_f2c_3 D_f2c_3 :=
 Az fun D_f2c_3 h_3 => lk mxk (lbc h_3 rfl lbn) (sd_f2c_3 D_f2c_3)
def tt_f2c (x : X_f2c) : TT Tryz.prog R_f2c :=
 (.jump S_f2c_3 D_f2c_3 (X_f2c_3.mk x 1 0))
theorem sd_f2c (x : X_f2c) : (tt_f2c x).AH :=
 TT.sJ
def D_f2c : AQ X_f2c R_f2c := .of tt_f2c
def con_f2c : A3 Tryz.prog :=
 BZ 187 J_f2c S_f2c D_f2c 1 0 [.any] (lk mxk (lbc ok_f2c_3 rfl lbn) sd_f2c)
abbrev X_f3z : Type := TR2 × Int × TSo
abbrev R_f3z : Type := TR2
def J_f3z : A9 Tryz.prog :=
 BF Tryz.prog Tryz.f186 18 [(5, 3), (7, 1)] [(3, [.close (.loc 13 0), .Ud (.loc 3 0) [.CI 0 0]])] [] [.close (.loc 13 0)] [sh_TR2] [] [] R_f3z [] fun y => [e_TR2 y]
def S_f3z : AM :=
 Ae Tryz.f186 3 0 X_f3z (fun x => [e_TR2 x.1, (V.int .i64) x.2.1, e_TSo x.2.2]) fun l => (d_TR2 (at_ l 0), dI (at_ l 1), d_TSo (at_ l 2))
def tt_f3z (x : X_f3z) : TT Tryz.prog R_f3z :=
 (.need (true && (room ((0 : Nat) + x.fst.L.n) 24)) <|
 (.need (A0 x.snd.fst ((0 : Nat) + x.fst.L.n)) <|
 (.need ((Nat.beq ((0 : Nat) + x.fst.L.n) ((0 : Nat) + x.fst.L.n)) && true) <|
 (.need ((true && true) && (Nat.beq ((0 : Nat) + x.fst.L.n) ((0 : Nat) + x.fst.L.n))) <|
 (.side (∀ i1 : Nat, ((i1 < ((0 : Nat) + x.fst.L.n)) → ((true && (true && (true && true))) = true))) <|
 (.ret (TR2.mk (Sl.mk (cond (Nat.beq x.fst.L.n 0) false false) ((0 : Nat) + x.fst.L.n) (fun i1 => (TSo.mk (cond (Nat.beq i1 ((0 : Nat) + (Int.toNat x.snd.fst))) x.snd.snd.AO (cond (Nat.blt i1 0) (0 : Int) (x.fst.L.get (i1 - 0)).AO)) (cond (Nat.beq i1 ((0 : Nat) + (Int.toNat x.snd.fst))) x.snd.snd.Value (cond (Nat.blt i1 0) (0 : Int) (x.fst.L.get (i1 - 0)).Value)) (cond (Nat.beq i1 ((0 : Nat) + (Int.toNat x.snd.fst))) x.snd.snd.Left (cond (Nat.blt i1 0) (0 : Int) (x.fst.L.get (i1 - 0)).Left))))) x.fst.AU)))))))
theorem sd_f3z (x : X_f3z) : (tt_f3z x).AH :=
 (TT.sN (TT.sN (TT.sN (TT.sN (TT.sS (fun _ _ => rfl) TT.sR)))))
def D_f3z : AQ X_f3z R_f3z := .of tt_f3z
def con_f3z : A3 Tryz.prog :=
 BZ 186 J_f3z S_f3z D_f3z 3 0 [sh_TR2, .any, .any] (lk mxk lbn sd_f3z)
abbrev X_f4d : Type := TR2 × Int × Int
abbrev R_f4d : Type := Int × TR2
def J_f4d : A9 Tryz.prog :=
 BF Tryz.prog Tryz.f159 50 [(3, 3)] [] [] [] [.any, sh_TR2] [] [con_f2c, con_f3z] R_f4d [] fun y => [V.CC (V.cons ((V.int .i64) y.1) (V.cons (e_TR2 y.2) (V.unit)))]
def S_f4d : AM :=
 Ae Tryz.f159 3 0 X_f4d (fun x => [e_TR2 x.1, (V.int .u64) x.2.1, (V.int .u64) x.2.2]) fun l => (d_TR2 (at_ l 0), dI (at_ l 1), dI (at_ l 2))
def tt_f4d (x : X_f4d) : TT Tryz.prog R_f4d :=
 (.ite (Bd 4611686018427387904 x.snd.fst)
 (.ret (1, x.fst))
 (.need (!(AX (IntKind.u64.wrap ((x.fst.L.n : Nat) : Int)) 0)) <|
 (.need (A0 (IntKind.i64.wrap (Int.tmod x.snd.fst (IntKind.u64.wrap ((x.fst.L.n : Nat) : Int)))) x.fst.L.n) <|
 (.ite (BS (x.fst.L.get (Int.toNat (IntKind.i64.wrap (Int.tmod x.snd.fst (IntKind.u64.wrap ((x.fst.L.n : Nat) : Int)))))).AO (IntKind.u64.wrap ((2 : Int) * x.snd.fst)))
 (.ret (8, x.fst))
 (.need (A0 (IntKind.i64.wrap (Int.tmod x.snd.fst (IntKind.u64.wrap ((x.fst.L.n : Nat) : Int)))) x.fst.L.n) <|
 (.ite (BS (IntKind.u64.wrap ((2 : Int) * x.snd.fst)) (x.fst.L.get (Int.toNat (IntKind.i64.wrap (Int.tmod x.snd.fst (IntKind.u64.wrap ((x.fst.L.n : Nat) : Int)))))).AO)
 (.ret (11, x.fst))
 (.call con_f2c x.fst.AU fun (y1 : R_f2c) =>
 (.call con_f3z (x.fst, ((IntKind.i64.wrap (Int.tmod x.snd.fst (IntKind.u64.wrap ((x.fst.L.n : Nat) : Int)))), (TSo.mk (IntKind.u64.wrap ((IntKind.u64.wrap ((2 : Int) * x.snd.fst)) + 1)) x.snd.snd y1))) fun (y2 : R_f3z) =>
 (.ret (0, y2))))))))))
theorem sd_f4d (x : X_f4d) : (tt_f4d x).AH :=
 (TT.sI TT.sR (TT.sN (TT.sN (TT.sI TT.sR (TT.sN (TT.sI TT.sR (TT.sC fun _ => (TT.sC fun _ => TT.sR))))))))
def D_f4d : AQ X_f4d R_f4d := .of tt_f4d
def con_f4d : A3 Tryz.prog :=
 BZ 159 J_f4d S_f4d D_f4d 3 0 [sh_TR2, .any, .any] (lk mxk lbn sd_f4d)
abbrev X_f35 : Type := TR3 × Int × Int
abbrev R_f35 : Type := Int × TR3
def J_f35 : A9 Tryz.prog :=
 BF Tryz.prog Tryz.f124 27 [(15, 1)] [] [] [] [.any, sh_TR3] [] [con_f4d] R_f35 [] fun y => [V.CC (V.cons ((V.int .i64) y.1) (V.cons (e_TR3 y.2) (V.unit)))]
def S_f35 : AM :=
 Ae Tryz.f124 3 0 X_f35 (fun x => [e_TR3 x.1, (V.int .u64) x.2.1, (V.int .u64) x.2.2]) fun l => (d_TR3 (at_ l 0), dI (at_ l 1), dI (at_ l 2))
def tt_f35 (x : X_f35) : TT Tryz.prog R_f35 :=
 (.ite (Bd x.fst.Aq x.snd.fst)
 (.ret (11, x.fst))
 (.call con_f4d (x.fst.S, x.snd) fun (y1 : R_f4d) =>
 (.ret (y1.fst, (TR3.mk x.fst.Cn x.fst.Aq x.fst.AY x.fst.Aw y1.snd)))))
theorem sd_f35 (x : X_f35) : (tt_f35 x).AH :=
 (TT.sI TT.sR (TT.sC fun _ => TT.sR))
def D_f35 : AQ X_f35 R_f35 := .of tt_f35
def con_f35 : A3 Tryz.prog :=
 BZ 124 J_f35 S_f35 D_f35 3 0 [sh_TR3, .any, .any] (lk mxk lbn sd_f35)
abbrev X_f3r : Type := TR3 × Int
abbrev R_f3r : Type := Bool
def J_f3r : A9 Tryz.prog :=
 BF Tryz.prog Tryz.f156 13 [(2, 3)] [] [] [] [.any] [] [] R_f3r [] fun y => [V.bool y]
def S_f3r : AM :=
 Ae Tryz.f156 2 0 X_f3r (fun x => [e_TR3 x.1, (V.int .i64) x.2]) fun l => (d_TR3 (at_ l 0), dI (at_ l 1))
def tt_f3r (x : X_f3r) : TT Tryz.prog R_f3r :=
 (.need (A0 x.snd x.fst.AY.n) <|
 (.ret (AX (x.fst.AY.get (Int.toNat x.snd)) x.fst.Aq)))
theorem sd_f3r (x : X_f3r) : (tt_f3r x).AH :=
 (TT.sN TT.sR)
def D_f3r : AQ X_f3r R_f3r := .of tt_f3r
def con_f3r : A3 Tryz.prog :=
 BZ 156 J_f3r S_f3r D_f3r 2 0 [sh_TR3, .any] (lk mxk lbn sd_f3r)
abbrev X_f2h : Type := Int × Int
abbrev R_f2h : Type := Bool
def J_f2h : A9 Tryz.prog :=
 BF Tryz.prog Tryz.f188 16 [] [] [] [] [.any] [] [] R_f2h [] fun y => [V.bool y]
def S_f2h : AM :=
 Ae Tryz.f188 2 0 X_f2h (fun x => [(V.int .i64) x.1, (V.int .i64) x.2]) fun l => (dI (at_ l 0), dI (at_ l 1))
structure X_f2h_2 where
 O9 : Int
 Ed : Int
 Ob : Int
def S_f2h_2 : AM :=
 Ad Tryz.f188 2 (an [0, 1, 5]) [] [] X_f2h_2 (fun x => [(V.int .i64) x.O9, (V.int .i64) x.Ed, (V.int .i64) x.Ob]) fun l => ⟨dI (at_ l 0), dI (at_ l 1), dI (at_ l 2)⟩
def tt_f2h_2 (D_f2h_2 : AQ X_f2h_2 R_f2h) (x : X_f2h_2) : TT Tryz.prog R_f2h :=
 (.ite (BS x.Ob x.Ed)
 (.jump S_f2h_2 D_f2h_2 (X_f2h_2.mk (IntKind.i64.wrap (Int.tdiv x.O9 2)) x.Ed (IntKind.i64.wrap (x.Ob + 1))))
 (.ret (AX (Int.tmod x.O9 2) 1)))
theorem sd_f2h_2 (D_f2h_2 : AQ X_f2h_2 R_f2h) (x : X_f2h_2) : (tt_f2h_2 D_f2h_2 x).AH :=
 (TT.sI TT.sJ TT.sR)
def D_f2h_2 : AQ X_f2h_2 R_f2h := AQ.loop tt_f2h_2
theorem ok_f2h_2 : AV J_f2h S_f2h_2 D_f2h_2 :=
 Az fun D_f2h_2 h_2 => lk mxk (lbc h_2 rfl lbn) (sd_f2h_2 D_f2h_2)
def tt_f2h (x : X_f2h) : TT Tryz.prog R_f2h :=
 (.jump S_f2h_2 D_f2h_2 (X_f2h_2.mk x.fst x.snd 0))
theorem sd_f2h (x : X_f2h) : (tt_f2h x).AH :=
 TT.sJ
def D_f2h : AQ X_f2h R_f2h := .of tt_f2h
def con_f2h : A3 Tryz.prog :=
 BZ 188 J_f2h S_f2h D_f2h 2 0 [.any, .any] (lk mxk (lbc ok_f2h_2 rfl lbn) sd_f2h)
abbrev X_f1c : Type := TR2 × Int × Int
abbrev R_f1c : Type := Int × Int × TR2
def J_f1c : A9 Tryz.prog :=
 BF Tryz.prog Tryz.f160 83 [(3, 3)] [] [] [] [.any, .any, sh_TR2] [] [con_f2c, con_f2h, con_f3z] R_f1c [] fun y => [V.CC (V.cons ((V.int .u64) y.1) (V.cons ((V.int .i64) y.2.1) (V.cons (e_TR2 y.2.2) (V.unit))))]
def S_f1c : AM :=
 Ae Tryz.f160 3 0 X_f1c (fun x => [e_TR2 x.1, (V.int .i64) x.2.1, (V.int .u64) x.2.2]) fun l => (d_TR2 (at_ l 0), dI (at_ l 1), dI (at_ l 2))
structure X_f1c_3 where
 Ed : Int
 Jf : Int
 Ds : TR2
 I0 : TR2
def S_f1c_3 : AM :=
 Ad Tryz.f160 3 (an [1, 2, 3, 8]) [] [(.loc 8 0, sh_TR2)] X_f1c_3 (fun x => [(V.int .i64) x.Ed, (V.int .u64) x.Jf, (CR e_TR2) x.Ds, (V.ptr (.loc 8 0) []), e_TR2 x.I0]) fun l => ⟨dI (at_ l 0), dI (at_ l 1), (CS d_TR2) (at_ l 2), d_TR2 (at_ l 4)⟩
structure X_f1c_9 where
 Ed : Int
 Jf : Int
 Ds : TR2
 G9 : Int
 I0 : TR2
 I1 : TSo
def S_f1c_9 : AM :=
 Ad Tryz.f160 9 (an [1, 2, 3, 8, 9, 10]) [] [(.loc 8 0, sh_TR2), (.loc 10 0, .any)] X_f1c_9 (fun x => [(V.int .i64) x.Ed, (V.int .u64) x.Jf, (CR e_TR2) x.Ds, (V.ptr (.loc 8 0) []), (V.int .i64) x.G9, (V.ptr (.loc 10 0) []), e_TR2 x.I0, e_TSo x.I1]) fun l => ⟨dI (at_ l 0), dI (at_ l 1), (CS d_TR2) (at_ l 2), dI (at_ l 4), d_TR2 (at_ l 6), d_TSo (at_ l 7)⟩
structure X_f1c_13 where
 Ds : TR2
 G9 : Int
 Us : Int
 I0 : TR2
 I1 : TSo
def S_f1c_13 : AM :=
 Ad Tryz.f160 13 (an [3, 8, 9, 10, 11]) [] [(.loc 8 0, sh_TR2), (.loc 10 0, .any)] X_f1c_13 (fun x => [(CR e_TR2) x.Ds, (V.ptr (.loc 8 0) []), (V.int .i64) x.G9, (V.ptr (.loc 10 0) []), (V.int .u64) x.Us, e_TR2 x.I0, e_TSo x.I1]) fun l => ⟨(CS d_TR2) (at_ l 0), dI (at_ l 2), dI (at_ l 4), d_TR2 (at_ l 5), d_TSo (at_ l 6)⟩
def tt_f1c_13 (x : X_f1c_13) : TT Tryz.prog R_f1c :=
 (.call con_f3z (x.Ds, (x.G9, x.I1)) fun (y1 : R_f3z) =>
 (.ret (x.Us, (0, y1))))
theorem sd_f1c_13 (x : X_f1c_13) : (tt_f1c_13 x).AH :=
 (TT.sC fun _ => TT.sR)
def D_f1c_13 : AQ X_f1c_13 R_f1c := .of tt_f1c_13
theorem ok_f1c_13 : AV J_f1c S_f1c_13 D_f1c_13 :=
 lk mxk lbn sd_f1c_13
def tt_f1c_9 (x : X_f1c_9) : TT Tryz.prog R_f1c :=
 (.call con_f2c x.Ed fun (y1 : R_f2c) =>
 (.ite (AX (IntKind.i64.wrap (x.I1.Left - (IntKind.i64.wrap (y1 + 1)))) 0)
 (.jump S_f1c_13 D_f1c_13 (X_f1c_13.mk x.Ds x.G9 x.I1.Value x.I0 (TSo.mk (IntKind.u64.wrap ((2 : Int) * (IntKind.u64.wrap (x.Jf + (IntKind.u64.wrap ((x.Ds.L.n : Nat) : Int)))))) 0 0)))
 (.jump S_f1c_13 D_f1c_13 (X_f1c_13.mk x.Ds x.G9 x.I1.Value x.I0 (TSo.mk x.I1.AO x.I1.Value (IntKind.i64.wrap (x.I1.Left - (IntKind.i64.wrap (y1 + 1)))))))))
theorem sd_f1c_9 (x : X_f1c_9) : (tt_f1c_9 x).AH :=
 (TT.sC fun _ => (TT.sI TT.sJ TT.sJ))
def D_f1c_9 : AQ X_f1c_9 R_f1c := .of tt_f1c_9
theorem ok_f1c_9 : AV J_f1c S_f1c_9 D_f1c_9 :=
 lk mxk (lbc ok_f1c_13 rfl lbn) sd_f1c_9
def tt_f1c_3 (x : X_f1c_3) : TT Tryz.prog R_f1c :=
 (.need (!(AX (IntKind.u64.wrap ((x.Ds.L.n : Nat) : Int)) 0)) <|
 (.need (A0 (IntKind.i64.wrap (Int.tmod x.Jf (IntKind.u64.wrap ((x.Ds.L.n : Nat) : Int)))) x.Ds.L.n) <|
 (.ite (BS (x.Ds.L.get (Int.toNat (IntKind.i64.wrap (Int.tmod x.Jf (IntKind.u64.wrap ((x.Ds.L.n : Nat) : Int)))))).AO (IntKind.u64.wrap ((IntKind.u64.wrap ((2 : Int) * x.Jf)) + 1)))
 (.ret (0, (9, x.Ds)))
 (.ite (BS (IntKind.u64.wrap ((IntKind.u64.wrap ((2 : Int) * x.Jf)) + 1)) (x.Ds.L.get (Int.toNat (IntKind.i64.wrap (Int.tmod x.Jf (IntKind.u64.wrap ((x.Ds.L.n : Nat) : Int)))))).AO)
 (.ret (0, (11, x.Ds)))
 (.call con_f2h ((x.Ds.L.get (Int.toNat (IntKind.i64.wrap (Int.tmod x.Jf (IntKind.u64.wrap ((x.Ds.L.n : Nat) : Int)))))).Left, x.Ed) fun (y1 : R_f2h) =>
 (.ite (!y1)
 (.ret (0, (11, x.Ds)))
 (.jump S_f1c_9 D_f1c_9 (X_f1c_9.mk x.Ed x.Jf x.Ds (IntKind.i64.wrap (Int.tmod x.Jf (IntKind.u64.wrap ((x.Ds.L.n : Nat) : Int)))) x.I0 (x.Ds.L.get (Int.toNat (IntKind.i64.wrap (Int.tmod x.Jf (IntKind.u64.wrap ((x.Ds.L.n : Nat) : Int))))))))))))))
theorem sd_f1c_3 (x : X_f1c_3) : (tt_f1c_3 x).AH :=
 (TT.sN (TT.sN (TT.sI TT.sR (TT.sI TT.sR (TT.sC fun _ => (TT.sI TT.sR TT.sJ))))))
def D_f1c_3 : AQ X_f1c_3 R_f1c := .of tt_f1c_3
theorem ok_f1c_3 : AV J_f1c S_f1c_3 D_f1c_3 :=
 lk mxk (lbc ok_f1c_13 rfl (lbc ok_f1c_9 rfl lbn)) sd_f1c_3
def tt_f1c (x : X_f1c) : TT Tryz.prog R_f1c :=
 (.ite (Bd 4611686018427387904 x.snd.snd)
 (.ret (0, (1, x.fst)))
 (.ite (BS x.snd.fst 0)
 (.ret (0, (1, x.fst)))
 (.ite (Bd x.fst.AU x.snd.fst)
 (.ret (0, (1, x.fst)))
 (.jump S_f1c_3 D_f1c_3 (X_f1c_3.mk x.snd.fst x.snd.snd x.fst (TR2.mk (Sl.mk true 0 (fun _i1 => (TSo.mk 0 0 0))) 0))))))
theorem sd_f1c (x : X_f1c) : (tt_f1c x).AH :=
 (TT.sI TT.sR (TT.sI TT.sR (TT.sI TT.sR TT.sJ)))
def D_f1c : AQ X_f1c R_f1c := .of tt_f1c
def con_f1c : A3 Tryz.prog :=
 BZ 160 J_f1c S_f1c D_f1c 3 0 [sh_TR2, .any, .any] (lk mxk (lbc ok_f1c_13 rfl (lbc ok_f1c_9 rfl (lbc ok_f1c_3 rfl lbn))) sd_f1c)
abbrev X_f1o : Type := TR3 × Int × Int
abbrev R_f1o : Type := Int × Int × TR3
def J_f1o : A9 Tryz.prog :=
 BF Tryz.prog Tryz.f126 44 [(30, 1)] [] [] [] [.any, .any, sh_TR3] [] [con_f1c] R_f1o [] fun y => [V.CC (V.cons ((V.int .u64) y.1) (V.cons ((V.int .i64) y.2.1) (V.cons (e_TR3 y.2.2) (V.unit))))]
def S_f1o : AM :=
 Ae Tryz.f126 3 0 X_f1o (fun x => [e_TR3 x.1, (V.int .i64) x.2.1, (V.int .u64) x.2.2]) fun l => (d_TR3 (at_ l 0), dI (at_ l 1), dI (at_ l 2))
structure X_f1o_3 where
 Ed : Int
 Jf : Int
 BG : TR3
 I0 : TR3
def S_f1o_3 : AM :=
 Ad Tryz.f126 3 (an [1, 2, 3, 8]) [] [(.loc 3 0, sh_TR3), (.loc 8 0, sh_TR3)] X_f1o_3 (fun x => [(V.int .i64) x.Ed, (V.int .u64) x.Jf, (V.ptr (.loc 3 0) []), (V.ptr (.loc 8 0) []), e_TR3 x.BG, e_TR3 x.I0]) fun l => ⟨dI (at_ l 0), dI (at_ l 1), d_TR3 (at_ l 4), d_TR3 (at_ l 5)⟩
def tt_f1o_3 (x : X_f1o_3) : TT Tryz.prog R_f1o :=
 (.need (A0 x.Ed x.BG.AY.n) <|
 (.ite (Bd (x.BG.AY.get (Int.toNat x.Ed)) x.Jf)
 (.ret (0, (11, x.BG)))
 (.call con_f1c (x.BG.S, (x.Ed, x.Jf)) fun (y1 : R_f1c) =>
 (.ret (y1.fst, (y1.snd.fst, (TR3.mk x.BG.Cn x.BG.Aq x.BG.AY x.BG.Aw y1.snd.snd)))))))
theorem sd_f1o_3 (x : X_f1o_3) : (tt_f1o_3 x).AH :=
 (TT.sN (TT.sI TT.sR (TT.sC fun _ => TT.sR)))
def D_f1o_3 : AQ X_f1o_3 R_f1o := .of tt_f1o_3
theorem ok_f1o_3 : AV J_f1o S_f1o_3 D_f1o_3 :=
 lk mxk lbn sd_f1o_3
def tt_f1o (x : X_f1o) : TT Tryz.prog R_f1o :=
 (.ite (BS x.snd.fst 0)
 (.ret (0, (1, x.fst)))
 (.ite (Bd ((x.fst.AY.n : Nat) : Int) x.snd.fst)
 (.ret (0, (1, x.fst)))
 (.jump S_f1o_3 D_f1o_3 (X_f1o_3.mk x.snd.fst x.snd.snd x.fst (TR3.mk 0 0 (Sl.mk true 0 (fun _i1 => (0 : Int))) false (TR2.mk (Sl.mk true 0 (fun _i1 => (TSo.mk 0 0 0))) 0))))))
theorem sd_f1o (x : X_f1o) : (tt_f1o x).AH :=
 (TT.sI TT.sR (TT.sI TT.sR TT.sJ))
def D_f1o : AQ X_f1o R_f1o := .of tt_f1o
def con_f1o : A3 Tryz.prog :=
 BZ 126 J_f1o S_f1o D_f1o 3 0 [sh_TR3, .any, .any] (lk mxk (lbc ok_f1o_3 rfl lbn) sd_f1o)
abbrev X_f3k : Type := TPg × TSt × TA6 × TEv × Bool
abbrev R_f3k : Type := Bool
def J_f3k : A9 Tryz.prog :=
 BF Tryz.prog Tryz.f120 92 [(5, 3), (6, 3), (7, 3), (8, 3), (46, 1), (75, 1)] [] [] [] [.any] [] [con_f3v, con_f35, con_f1o, con_f3r, con_f3s] R_f3k [] fun y => [V.bool y]
def S_f3k : AM :=
 Ae Tryz.f120 5 0 X_f3k (fun x => [e_TPg x.1, e_TSt x.2.1, e_TA6 x.2.2.1, e_TEv x.2.2.2.1, V.bool x.2.2.2.2]) fun l => (d_TPg (at_ l 0), d_TSt (at_ l 1), d_TA6 (at_ l 2), d_TEv (at_ l 3), dB (at_ l 4))
def tt_f3k (x : X_f3k) : TT Tryz.prog R_f3k :=
 (.call con_f3s (x.fst, (x.snd.fst, x.snd.snd.snd.fst.Ring)) fun (y1 : R_f3s) =>
 (.ite (AX x.snd.snd.snd.fst.Kind 1)
 (.ite x.snd.snd.snd.snd
 (.ite (!y1.Aw)
 (.call con_f3v y1 fun (y2 : R_f3v) =>
 (.ite (!y2)
 (.ret (AX x.snd.snd.snd.fst.AG y1.Aq))
 (.ret false)))
 (.ret false))
 (.call con_f3v y1 fun (y2 : R_f3v) =>
 (.ite (!y2)
 (.ret (AX x.snd.snd.snd.fst.AG y1.Aq))
 (.ret false))))
 (.ite (AX x.snd.snd.snd.fst.Kind 2)
 (.call con_f35 (y1, (x.snd.snd.snd.fst.AG, 0)) fun (y2 : R_f35) =>
 (.ret (AX y2.fst 0)))
 (.ite (AX x.snd.snd.snd.fst.Kind 3)
 (.call con_f3r (y1, x.snd.snd.fst.Reader) fun (y2 : R_f3r) =>
 (.ite (!y2)
 (.need (A0 x.snd.snd.fst.Reader y1.AY.n) <|
 (.ret (AX x.snd.snd.snd.fst.AG (y1.AY.get (Int.toNat x.snd.snd.fst.Reader)))))
 (.ret false)))
 (.ite (AX x.snd.snd.snd.fst.Kind 4)
 (.call con_f1o (y1, (x.snd.snd.fst.Reader, x.snd.snd.snd.fst.AG)) fun (y2 : R_f1o) =>
 (.ret (AX y2.snd.fst 0)))
 (.ret (AX x.snd.snd.snd.fst.AG y1.Aq)))))))
theorem sd_f3k (x : X_f3k) : (tt_f3k x).AH :=
 (TT.sC fun _ => (TT.sI (TT.sI (TT.sI (TT.sC fun _ => (TT.sI TT.sR TT.sR)) TT.sR) (TT.sC fun _ => (TT.sI TT.sR TT.sR))) (TT.sI (TT.sC fun _ => TT.sR) (TT.sI (TT.sC fun _ => (TT.sI (TT.sN TT.sR) TT.sR)) (TT.sI (TT.sC fun _ => TT.sR) TT.sR)))))
def D_f3k : AQ X_f3k R_f3k := .of tt_f3k
def con_f3k : A3 Tryz.prog :=
 BZ 120 J_f3k S_f3k D_f3k 5 0 [sh_TPg, sh_TSt, .any, .any, .any] (lk mxk lbn sd_f3k)
abbrev X_f11 : Type := TPg × TSt × TA6 × TEv
abbrev R_f11 : Type := Bool
def J_f11 : A9 Tryz.prog :=
 BF Tryz.prog Tryz.f121 47 [(4, 3), (5, 3), (6, 3), (7, 3)] [] [] [] [.any] [] [con_f3v, con_f3r, con_f3s] R_f11 [] fun y => [V.bool y]
def S_f11 : AM :=
 Ae Tryz.f121 4 0 X_f11 (fun x => [e_TPg x.1, e_TSt x.2.1, e_TA6 x.2.2.1, e_TEv x.2.2.2]) fun l => (d_TPg (at_ l 0), d_TSt (at_ l 1), d_TA6 (at_ l 2), d_TEv (at_ l 3))
structure X_f11_3 where
 e_7 : TEv
 Po : Bool
 Cf : TR3
def S_f11_3 : AM :=
 Ad Tryz.f121 3 (an [7, 9, 10]) [] [(.loc 9 0, sh_TR3)] X_f11_3 (fun x => [(CR e_TEv) x.e_7, (V.ptr (.loc 9 0) []), V.bool x.Po, e_TR3 x.Cf]) fun l => ⟨(CS d_TEv) (at_ l 0), dB (at_ l 2), d_TR3 (at_ l 3)⟩
def tt_f11_3 (x : X_f11_3) : TT Tryz.prog R_f11 :=
 (.ite x.Po
 (.ret (x.Cf.Aw == (AX x.e_7.Kind 6)))
 (.ret false))
theorem sd_f11_3 (x : X_f11_3) : (tt_f11_3 x).AH :=
 (TT.sI TT.sR TT.sR)
def D_f11_3 : AQ X_f11_3 R_f11 := .of tt_f11_3
theorem ok_f11_3 : AV J_f11 S_f11_3 D_f11_3 :=
 lk mxk lbn sd_f11_3
def tt_f11 (x : X_f11) : TT Tryz.prog R_f11 :=
 (.call con_f3s (x.fst, (x.snd.fst, x.snd.snd.snd.Ring)) fun (y1 : R_f3s) =>
 (.ite (AX x.snd.snd.fst.Kind 1)
 (.ite y1.Aw
 (.jump S_f11_3 D_f11_3 (X_f11_3.mk x.snd.snd.snd true y1))
 (.call con_f3v y1 fun (y2 : R_f3v) =>
 (.ite y2
 (.jump S_f11_3 D_f11_3 (X_f11_3.mk x.snd.snd.snd true y1))
 (.ite (AX x.snd.snd.fst.Kind 2)
 (.call con_f3r (y1, x.snd.snd.fst.Reader) fun (y3 : R_f3r) =>
 (.jump S_f11_3 D_f11_3 (X_f11_3.mk x.snd.snd.snd y3 y1)))
 (.jump S_f11_3 D_f11_3 (X_f11_3.mk x.snd.snd.snd false y1))))))
 (.ite (AX x.snd.snd.fst.Kind 2)
 (.call con_f3r (y1, x.snd.snd.fst.Reader) fun (y2 : R_f3r) =>
 (.jump S_f11_3 D_f11_3 (X_f11_3.mk x.snd.snd.snd y2 y1)))
 (.jump S_f11_3 D_f11_3 (X_f11_3.mk x.snd.snd.snd false y1)))))
theorem sd_f11 (x : X_f11) : (tt_f11 x).AH :=
 (TT.sC fun _ => (TT.sI (TT.sI TT.sJ (TT.sC fun _ => (TT.sI TT.sJ (TT.sI (TT.sC fun _ => TT.sJ) TT.sJ)))) (TT.sI (TT.sC fun _ => TT.sJ) TT.sJ)))
def D_f11 : AQ X_f11 R_f11 := .of tt_f11
def con_f11 : A3 Tryz.prog :=
 BZ 121 J_f11 S_f11 D_f11 4 0 [sh_TPg, sh_TSt, .any, .any] (lk mxk (lbc ok_f11_3 rfl lbn) sd_f11)
abbrev X_f3e : Type := TPg × TSt × TEv
abbrev R_f3e : Type := Bool
def J_f3e : A9 Tryz.prog :=
 BF Tryz.prog Tryz.f75 60 [(3, 3), (4, 3), (5, 3)] [] [] [] [.any] [] [con_f4a, con_f3y, con_f11, con_f3k] R_f3e [] fun y => [V.bool y]
def S_f3e : AM :=
 Ae Tryz.f75 3 0 X_f3e (fun x => [e_TPg x.1, e_TSt x.2.1, e_TEv x.2.2]) fun l => (d_TPg (at_ l 0), d_TSt (at_ l 1), d_TEv (at_ l 2))
def tt_f3e (x : X_f3e) : TT Tryz.prog R_f3e :=
 (.call con_f3y (x.fst, (x.snd.fst, x.snd.snd)) fun (y1 : R_f3y) =>
 (.ite (!(AX y1 0))
 (.ret false)
 (.call con_f4a (x.fst, (x.snd.fst, x.snd.snd.Thread)) fun (y2 : R_f4a) =>
 (.ite (AX x.snd.snd.Kind 1)
 (.call con_f3k (x.fst, (x.snd.fst, (y2, (x.snd.snd, true)))) fun (y3 : R_f3k) =>
 (.ret y3))
 (.ite (AX x.snd.snd.Kind 2)
 (.call con_f3k (x.fst, (x.snd.fst, (y2, (x.snd.snd, true)))) fun (y3 : R_f3k) =>
 (.ret y3))
 (.ite (AX x.snd.snd.Kind 3)
 (.call con_f3k (x.fst, (x.snd.fst, (y2, (x.snd.snd, true)))) fun (y3 : R_f3k) =>
 (.ret y3))
 (.ite (AX x.snd.snd.Kind 4)
 (.call con_f3k (x.fst, (x.snd.fst, (y2, (x.snd.snd, true)))) fun (y3 : R_f3k) =>
 (.ret y3))
 (.ite (AX x.snd.snd.Kind 13)
 (.call con_f3k (x.fst, (x.snd.fst, (y2, (x.snd.snd, true)))) fun (y3 : R_f3k) =>
 (.ret y3))
 (.ite (AX x.snd.snd.Kind 5)
 (.call con_f11 (x.fst, (x.snd.fst, (y2, x.snd.snd))) fun (y3 : R_f11) =>
 (.ret y3))
 (.ite (AX x.snd.snd.Kind 6)
 (.call con_f11 (x.fst, (x.snd.fst, (y2, x.snd.snd))) fun (y3 : R_f11) =>
 (.ret y3))
 (.ite (AX x.snd.snd.Kind 7)
 (.call con_f11 (x.fst, (x.snd.fst, (y2, x.snd.snd))) fun (y3 : R_f11) =>
 (.ret y3))
 (.ite (AX x.snd.snd.Kind 8)
 (.ite (Bd x.snd.fst.FD x.snd.snd.Value)
 (.ret (BS (IntKind.u64.wrap (x.snd.snd.Value - x.snd.fst.FD)) 1048576))
 (.ret false))
 (.ite (AX x.snd.snd.Kind 10)
 (.ret (!x.snd.fst.CF))
 (.ret true))))))))))))))
theorem sd_f3e (x : X_f3e) : (tt_f3e x).AH :=
 (TT.sC fun _ => (TT.sI TT.sR (TT.sC fun _ => (TT.sI (TT.sC fun _ => TT.sR) (TT.sI (TT.sC fun _ => TT.sR) (TT.sI (TT.sC fun _ => TT.sR) (TT.sI (TT.sC fun _ => TT.sR) (TT.sI (TT.sC fun _ => TT.sR) (TT.sI (TT.sC fun _ => TT.sR) (TT.sI (TT.sC fun _ => TT.sR) (TT.sI (TT.sC fun _ => TT.sR) (TT.sI (TT.sI TT.sR TT.sR) (TT.sI TT.sR TT.sR)))))))))))))
def D_f3e : AQ X_f3e R_f3e := .of tt_f3e
def con_f3e : A3 Tryz.prog :=
 BZ 75 J_f3e S_f3e D_f3e 3 0 [sh_TPg, sh_TSt, .any] (lk mxk lbn sd_f3e)
abbrev X_f2x : Type := TR3 × Int
abbrev R_f2x : Type := Int × Int × TR3
def J_f2x : A9 Tryz.prog :=
 BF Tryz.prog Tryz.f125 51 [(29, 1)] [(9, [.close (.loc 38 0), .close (.loc 35 0), .Ud (.loc 2 0) [.CI 2 2]])] [(8, [.Ir (.loc 2 0) [.CI 2 2] 35, .Ir (.loc 2 0) [.CI 2 2] 38])] [.close (.loc 38 0), .close (.loc 35 0)] [.any, .any, sh_TR3] [] [] R_f2x [(0, [⟨.loc 35 0, .loc 2 0, [.CI 2 2], none, none⟩, ⟨.loc 38 0, .loc 2 0, [.CI 2 2], none, none⟩]), (3, [⟨.loc 35 0, .loc 2 0, [.CI 2 2], none, none⟩, ⟨.loc 38 0, .loc 2 0, [.CI 2 2], none, none⟩])] fun y => [V.CC (V.cons ((V.int .u64) y.1) (V.cons ((V.int .i64) y.2.1) (V.cons (e_TR3 y.2.2) (V.unit))))]
def S_f2x : AM :=
 Ae Tryz.f125 2 0 X_f2x (fun x => [e_TR3 x.1, (V.int .i64) x.2]) fun l => (d_TR3 (at_ l 0), dI (at_ l 1))
structure X_f2x_3 where
 Ed : Int
 Fe : TR3
 HX : TR3
def S_f2x_3 : AM :=
 Ad Tryz.f125 3 (an [1, 2, 6]) [] [(.loc 2 0, sh_TR3), (.loc 6 0, sh_TR3)] X_f2x_3 (fun x => [(V.int .i64) x.Ed, (V.ptr (.loc 2 0) []), (V.ptr (.loc 6 0) []), e_TR3 x.Fe, e_TR3 x.HX]) fun l => ⟨dI (at_ l 0), d_TR3 (at_ l 3), d_TR3 (at_ l 4)⟩
def tt_f2x_3 (x : X_f2x_3) : TT Tryz.prog R_f2x :=
 (.need (A0 x.Ed x.Fe.AY.n) <|
 (.ite (AX (x.Fe.AY.get (Int.toNat x.Ed)) x.Fe.Aq)
 (.ite x.Fe.Aw
 (.ret (0, (10, x.Fe)))
 (.ret (0, (9, x.Fe))))
 (.need (true && (room ((0 : Nat) + x.Fe.AY.n) 8)) <|
 (.need (A0 x.Ed ((0 : Nat) + x.Fe.AY.n)) <|
 (.need ((Nat.beq ((0 : Nat) + x.Fe.AY.n) ((0 : Nat) + x.Fe.AY.n)) && true) <|
 (.need (A0 x.Ed ((0 : Nat) + x.Fe.AY.n)) <|
 (.need ((Nat.beq ((0 : Nat) + x.Fe.AY.n) ((0 : Nat) + x.Fe.AY.n)) && true) <|
 (.need ((true && true) && (Nat.beq ((0 : Nat) + x.Fe.AY.n) ((0 : Nat) + x.Fe.AY.n))) <|
 (.side (∀ i1 : Nat, ((i1 < ((0 : Nat) + x.Fe.AY.n)) → (true = true))) <|
 (.need (A0 x.Ed ((0 : Nat) + x.Fe.AY.n)) <|
 (.ret ((IntKind.u64.wrap ((cond (Nat.beq (Int.toNat x.Ed) ((0 : Nat) + (Int.toNat x.Ed))) (IntKind.u64.wrap ((cond (Nat.blt ((0 : Nat) + (Int.toNat x.Ed)) 0) (0 : Int) (x.Fe.AY.get (((0 : Nat) + (Int.toNat x.Ed)) - 0))) + 1)) (cond (Nat.blt (Int.toNat x.Ed) 0) (0 : Int) (x.Fe.AY.get ((Int.toNat x.Ed) - 0)))) - 1)), (0, (TR3.mk x.Fe.Cn x.Fe.Aq (Sl.mk (cond (Nat.beq x.Fe.AY.n 0) false false) ((0 : Nat) + x.Fe.AY.n) (fun i1 => (cond (Nat.beq i1 ((0 : Nat) + (Int.toNat x.Ed))) (IntKind.u64.wrap ((cond (Nat.blt ((0 : Nat) + (Int.toNat x.Ed)) 0) (0 : Int) (x.Fe.AY.get (((0 : Nat) + (Int.toNat x.Ed)) - 0))) + 1)) (cond (Nat.blt i1 0) (0 : Int) (x.Fe.AY.get (i1 - 0)))))) x.Fe.Aw x.Fe.S))))))))))))))
theorem sd_f2x_3 (x : X_f2x_3) : (tt_f2x_3 x).AH :=
 (TT.sN (TT.sI (TT.sI TT.sR TT.sR) (TT.sN (TT.sN (TT.sN (TT.sN (TT.sN (TT.sN (TT.sS (fun _ _ => rfl) (TT.sN TT.sR))))))))))
def D_f2x_3 : AQ X_f2x_3 R_f2x := .of tt_f2x_3
theorem ok_f2x_3 : AV J_f2x S_f2x_3 D_f2x_3 :=
 lk mxk lbn sd_f2x_3
def tt_f2x (x : X_f2x) : TT Tryz.prog R_f2x :=
 (.ite (BS x.snd 0)
 (.ret (0, (1, x.fst)))
 (.ite (Bd ((x.fst.AY.n : Nat) : Int) x.snd)
 (.ret (0, (1, x.fst)))
 (.jump S_f2x_3 D_f2x_3 (X_f2x_3.mk x.snd x.fst (TR3.mk 0 0 (Sl.mk true 0 (fun _i1 => (0 : Int))) false (TR2.mk (Sl.mk true 0 (fun _i1 => (TSo.mk 0 0 0))) 0))))))
theorem sd_f2x (x : X_f2x) : (tt_f2x x).AH :=
 (TT.sI TT.sR (TT.sI TT.sR TT.sJ))
def D_f2x : AQ X_f2x R_f2x := .of tt_f2x
def con_f2x : A3 Tryz.prog :=
 BZ 125 J_f2x S_f2x D_f2x 2 0 [sh_TR3, .any] (lk mxk (lbc ok_f2x_3 rfl lbn) sd_f2x)
abbrev X_fp : Type := (Sl TIn) × TTh × TEv × Int
abbrev R_fp : Type := TTh
def J_fp : A9 Tryz.prog :=
 BF Tryz.prog Tryz.f127 117 [(6, 3), (35, 1)] [] [] [] [sh_TTh] [] [] R_fp [] fun y => [e_TTh y]
def S_fp : AM :=
 Ae Tryz.f127 4 0 X_fp (fun x => [esl_TIn x.1, e_TTh x.2.1, e_TEv x.2.2.1, (V.int .u64) x.2.2.2]) fun l => (dsl_TIn (at_ l 0), d_TTh (at_ l 1), d_TEv (at_ l 2), dI (at_ l 3))
structure X_fp_12 where
 Bk : (Sl TIn)
 Ur : Int
 ID : TEv
 BA : TTh
 I0 : TTh
def S_fp_12 : AM :=
 Ad Tryz.f127 12 [(0, hsl_TIn), (3, .any), (5, .any), (6, .any), (8, .any)] [] [(.loc 5 0, sh_TTh), (.loc 8 0, sh_TTh)] X_fp_12 (fun x => [esl_TIn x.Bk, (V.int .u64) x.Ur, (V.ptr (.loc 5 0) []), (CR e_TEv) x.ID, (V.ptr (.loc 8 0) []), e_TTh x.BA, e_TTh x.I0]) fun l => ⟨dsl_TIn (at_ l 0), dI (at_ l 1), (CS d_TEv) (at_ l 3), d_TTh (at_ l 5), d_TTh (at_ l 6)⟩
structure X_fp_33 where
 BA : TTh
 I0 : TTh
def S_fp_33 : AM :=
 Ad Tryz.f127 33 (an [5, 8]) [] [(.loc 5 0, sh_TTh), (.loc 8 0, sh_TTh)] X_fp_33 (fun x => [(V.ptr (.loc 5 0) []), (V.ptr (.loc 8 0) []), e_TTh x.BA, e_TTh x.I0]) fun l => ⟨d_TTh (at_ l 2), d_TTh (at_ l 3)⟩
def tt_fp_33 (x : X_fp_33) : TT Tryz.prog R_fp :=
 (.ret (TTh.mk (IntKind.i64.wrap (x.BA.At + 1)) 0 0 x.BA.Status 0 x.BA.Af x.BA.Seen))
theorem sd_fp_33 (x : X_fp_33) : (tt_fp_33 x).AH :=
 TT.sR
def D_fp_33 : AQ X_fp_33 R_fp := .of tt_fp_33
theorem ok_fp_33 : AV J_fp S_fp_33 D_fp_33 :=
 lk mxk lbn sd_fp_33
def tt_fp_12 (x : X_fp_12) : TT Tryz.prog R_fp :=
 (.need (A0 x.BA.At x.Bk.n) <|
 (.ite (AX x.ID.Kind 2)
 (.need (A0 (x.Bk.get (Int.toNat x.BA.At)).B 8) <|
 (.jump S_fp_33 D_fp_33 (X_fp_33.mk (TTh.mk x.BA.At x.BA.Phase x.BA.Ring x.BA.Status x.BA.AG (fun i1 => (cond (Nat.beq i1 (Int.toNat (x.Bk.get (Int.toNat x.BA.At)).B)) (0 : Int) (x.BA.Af i1))) x.BA.Seen) x.I0)))
 (.ite (AX x.ID.Kind 4)
 (.need (A0 (x.Bk.get (Int.toNat x.BA.At)).A 8) <|
 (.need (A0 (x.Bk.get (Int.toNat x.BA.At)).B 8) <|
 (.jump S_fp_33 D_fp_33 (X_fp_33.mk (TTh.mk x.BA.At x.BA.Phase x.BA.Ring x.BA.Status x.BA.AG (fun i1 => (cond (Nat.beq i1 (Int.toNat (x.Bk.get (Int.toNat x.BA.At)).B)) (0 : Int) (cond (Nat.beq i1 (Int.toNat (x.Bk.get (Int.toNat x.BA.At)).A)) x.Ur (x.BA.Af i1)))) x.BA.Seen) x.I0))))
 (.ite (AX x.ID.Kind 5)
 (.need (A0 (x.Bk.get (Int.toNat x.BA.At)).B 8) <|
 (.jump S_fp_33 D_fp_33 (X_fp_33.mk (TTh.mk x.BA.At x.BA.Phase x.BA.Ring x.BA.Status x.BA.AG (fun i1 => (cond (Nat.beq i1 (Int.toNat (x.Bk.get (Int.toNat x.BA.At)).B)) (IntKind.u64.wrap (IntKind.i64.wrap (x.ID.Kind - 4))) (x.BA.Af i1))) x.BA.Seen) x.I0)))
 (.ite (AX x.ID.Kind 6)
 (.need (A0 (x.Bk.get (Int.toNat x.BA.At)).B 8) <|
 (.jump S_fp_33 D_fp_33 (X_fp_33.mk (TTh.mk x.BA.At x.BA.Phase x.BA.Ring x.BA.Status x.BA.AG (fun i1 => (cond (Nat.beq i1 (Int.toNat (x.Bk.get (Int.toNat x.BA.At)).B)) (IntKind.u64.wrap (IntKind.i64.wrap (x.ID.Kind - 4))) (x.BA.Af i1))) x.BA.Seen) x.I0)))
 (.ite (AX x.ID.Kind 7)
 (.need (A0 (x.Bk.get (Int.toNat x.BA.At)).B 8) <|
 (.jump S_fp_33 D_fp_33 (X_fp_33.mk (TTh.mk x.BA.At x.BA.Phase x.BA.Ring x.BA.Status x.BA.AG (fun i1 => (cond (Nat.beq i1 (Int.toNat (x.Bk.get (Int.toNat x.BA.At)).B)) (IntKind.u64.wrap (IntKind.i64.wrap (x.ID.Kind - 4))) (x.BA.Af i1))) x.BA.Seen) x.I0)))
 (.ite (AX x.ID.Kind 8)
 (.need (A0 (x.Bk.get (Int.toNat x.BA.At)).A 8) <|
 (.jump S_fp_33 D_fp_33 (X_fp_33.mk (TTh.mk x.BA.At x.BA.Phase x.BA.Ring x.BA.Status x.BA.AG (fun i1 => (cond (Nat.beq i1 (Int.toNat (x.Bk.get (Int.toNat x.BA.At)).A)) x.ID.Value (x.BA.Af i1))) x.BA.Seen) x.I0)))
 (.ite (AX x.ID.Kind 9)
 (.need (A0 (x.Bk.get (Int.toNat x.BA.At)).A 8) <|
 (.jump S_fp_33 D_fp_33 (X_fp_33.mk (TTh.mk x.BA.At x.BA.Phase x.BA.Ring x.BA.Status x.BA.AG (fun i1 => (cond (Nat.beq i1 (Int.toNat (x.Bk.get (Int.toNat x.BA.At)).A)) x.ID.Value (x.BA.Af i1))) x.BA.Seen) x.I0)))
 (.ite (AX x.ID.Kind 10)
 (.need (A0 (x.Bk.get (Int.toNat x.BA.At)).A 8) <|
 (.need (A0 (x.Bk.get (Int.toNat x.BA.At)).B 8) <|
 (.jump S_fp_33 D_fp_33 (X_fp_33.mk (TTh.mk x.BA.At x.BA.Phase x.BA.Ring x.BA.Status x.BA.AG (fun i1 => (cond (Nat.beq i1 (Int.toNat (x.Bk.get (Int.toNat x.BA.At)).B)) (0 : Int) (cond (Nat.beq i1 (Int.toNat (x.Bk.get (Int.toNat x.BA.At)).A)) x.ID.Value (x.BA.Af i1)))) x.BA.Seen) x.I0))))
 (.ite (AX x.ID.Kind 11)
 (.need (A0 (x.Bk.get (Int.toNat x.BA.At)).B 8) <|
 (.jump S_fp_33 D_fp_33 (X_fp_33.mk (TTh.mk x.BA.At x.BA.Phase x.BA.Ring x.BA.Status x.BA.AG (fun i1 => (cond (Nat.beq i1 (Int.toNat (x.Bk.get (Int.toNat x.BA.At)).B)) (1 : Int) (x.BA.Af i1))) x.BA.Seen) x.I0)))
 (.ite (AX x.ID.Kind 12)
 (.need (true && (room ((0 : Nat) + x.BA.Seen.n) 8)) <|
 (.need (true && (room (((0 : Nat) + x.BA.Seen.n) + 1) 8)) <|
 (.jump S_fp_33 D_fp_33 (X_fp_33.mk (TTh.mk x.BA.At x.BA.Phase x.BA.Ring x.BA.Status x.BA.AG x.BA.Af (Sl.mk (cond (Nat.beq 1 0) (cond (Nat.beq x.BA.Seen.n 0) false false) false) (((0 : Nat) + x.BA.Seen.n) + 1) (fun i1 => (cond (Nat.blt i1 ((0 : Nat) + x.BA.Seen.n)) (cond (Nat.blt i1 0) (0 : Int) (x.BA.Seen.get (i1 - 0))) x.ID.Value)))) x.I0))))
 (.jump S_fp_33 D_fp_33 (X_fp_33.mk x.BA x.I0)))))))))))))
theorem sd_fp_12 (x : X_fp_12) : (tt_fp_12 x).AH :=
 (TT.sN (TT.sI (TT.sN TT.sJ) (TT.sI (TT.sN (TT.sN TT.sJ)) (TT.sI (TT.sN TT.sJ) (TT.sI (TT.sN TT.sJ) (TT.sI (TT.sN TT.sJ) (TT.sI (TT.sN TT.sJ) (TT.sI (TT.sN TT.sJ) (TT.sI (TT.sN (TT.sN TT.sJ)) (TT.sI (TT.sN TT.sJ) (TT.sI (TT.sN (TT.sN TT.sJ)) TT.sJ)))))))))))
def D_fp_12 : AQ X_fp_12 R_fp := .of tt_fp_12
theorem ok_fp_12 : AV J_fp S_fp_12 D_fp_12 :=
 lk mxk (lbc ok_fp_33 rfl lbn) sd_fp_12
def tt_fp (x : X_fp) : TT Tryz.prog R_fp :=
 (.ite (AX x.snd.snd.fst.Kind 1)
 (.ret (TTh.mk x.snd.fst.At (IntKind.i64.wrap (Int.tdiv (IntKind.i64.wrap (x.snd.snd.fst.Kind + 1)) 2)) x.snd.snd.fst.Ring x.snd.fst.Status x.snd.snd.fst.AG x.snd.fst.Af x.snd.fst.Seen))
 (.ite (AX x.snd.snd.fst.Kind 3)
 (.ret (TTh.mk x.snd.fst.At (IntKind.i64.wrap (Int.tdiv (IntKind.i64.wrap (x.snd.snd.fst.Kind + 1)) 2)) x.snd.snd.fst.Ring x.snd.fst.Status x.snd.snd.fst.AG x.snd.fst.Af x.snd.fst.Seen))
 (.ite (AX x.snd.snd.fst.Kind 14)
 (.ret (TTh.mk x.snd.fst.At x.snd.fst.Phase x.snd.fst.Ring (IntKind.i64.wrap (x.snd.snd.fst.Kind - 13)) x.snd.fst.AG x.snd.fst.Af x.snd.fst.Seen))
 (.ite (AX x.snd.snd.fst.Kind 15)
 (.ret (TTh.mk x.snd.fst.At x.snd.fst.Phase x.snd.fst.Ring (IntKind.i64.wrap (x.snd.snd.fst.Kind - 13)) x.snd.fst.AG x.snd.fst.Af x.snd.fst.Seen))
 (.jump S_fp_12 D_fp_12 (X_fp_12.mk x.fst x.snd.snd.snd x.snd.snd.fst x.snd.fst (TTh.mk 0 0 0 0 0 (fun _i1 => (0 : Int)) (Sl.mk true 0 (fun _i1 => (0 : Int))))))))))
theorem sd_fp (x : X_fp) : (tt_fp x).AH :=
 (TT.sI TT.sR (TT.sI TT.sR (TT.sI TT.sR (TT.sI TT.sR TT.sJ))))
def D_fp : AQ X_fp R_fp := .of tt_fp
def con_fp : A3 Tryz.prog :=
 BZ 127 J_fp S_fp D_fp 4 0 [hsl_TIn, sh_TTh, .any, .any] (lk mxk (lbc ok_fp_33 rfl (lbc ok_fp_12 rfl lbn)) sd_fp)
abbrev X_f7 : Type := TPg × TSt × TEv
abbrev R_f7 : Type := TSt
def J_f7 : A9 Tryz.prog :=
 BF Tryz.prog Tryz.f76 143 [(3, 3), (5, 3), (13, 1), (52, 1), (63, 1), (73, 1), (86, 1), (96, 1), (122, 1), (140, 1)] [(17, [.open_ 11]), (18, [.shut 11, .PG 11]), (26, [.open_ 12]), (27, [.shut 12, .PG 12])] [] [] [sh_TSt] [] [con_f35, con_f1o, con_f3l, con_f2x, con_fp, con_fk, con_f3s] R_f7 [] fun y => [e_TSt y]
def S_f7 : AM :=
 Ae Tryz.f76 3 0 X_f7 (fun x => [e_TPg x.1, e_TSt x.2.1, e_TEv x.2.2]) fun l => (d_TPg (at_ l 0), d_TSt (at_ l 1), d_TEv (at_ l 2))
structure X_f7_16 where
 Da : TPg
 Cd : TEv
 ND : Int
 Bt : TSt
 HX : TSt
 HF : TTh
 I1 : TR3
def S_f7_16 : AM :=
 Ad Tryz.f76 16 (an [3, 4, 5, 6, 7, 9, 10]) [] [(.loc 4 0, sh_TSt), (.loc 6 0, sh_TSt), (.loc 7 0, sh_TTh), (.loc 10 0, sh_TR3)] X_f7_16 (fun x => [(CR e_TPg) x.Da, (V.ptr (.loc 4 0) []), (CR e_TEv) x.Cd, (V.ptr (.loc 6 0) []), (V.ptr (.loc 7 0) []), (V.int .u64) x.ND, (V.ptr (.loc 10 0) []), e_TSt x.Bt, e_TSt x.HX, e_TTh x.HF, e_TR3 x.I1]) fun l => ⟨(CS d_TPg) (at_ l 0), (CS d_TEv) (at_ l 2), dI (at_ l 5), d_TSt (at_ l 7), d_TSt (at_ l 8), d_TTh (at_ l 9), d_TR3 (at_ l 10)⟩
structure X_f7_19 where
 Da : TPg
 Cd : TEv
 ND : Int
 Bt : TSt
 HX : TSt
 HF : TTh
def S_f7_19 : AM :=
 Ad Tryz.f76 19 (an [3, 4, 5, 6, 7, 9]) [] [(.loc 4 0, sh_TSt), (.loc 6 0, sh_TSt), (.loc 7 0, sh_TTh)] X_f7_19 (fun x => [(CR e_TPg) x.Da, (V.ptr (.loc 4 0) []), (CR e_TEv) x.Cd, (V.ptr (.loc 6 0) []), (V.ptr (.loc 7 0) []), (V.int .u64) x.ND, e_TSt x.Bt, e_TSt x.HX, e_TTh x.HF]) fun l => ⟨(CS d_TPg) (at_ l 0), (CS d_TEv) (at_ l 2), dI (at_ l 5), d_TSt (at_ l 6), d_TSt (at_ l 7), d_TTh (at_ l 8)⟩
structure X_f7_21 where
 Da : TPg
 Cd : TEv
 ND : Int
 Bt : TSt
 HX : TSt
 HF : TTh
def S_f7_21 : AM :=
 Ad Tryz.f76 21 (an [3, 4, 5, 6, 7, 9]) [] [(.loc 4 0, sh_TSt), (.loc 6 0, sh_TSt), (.loc 7 0, sh_TTh)] X_f7_21 (fun x => [(CR e_TPg) x.Da, (V.ptr (.loc 4 0) []), (CR e_TEv) x.Cd, (V.ptr (.loc 6 0) []), (V.ptr (.loc 7 0) []), (V.int .u64) x.ND, e_TSt x.Bt, e_TSt x.HX, e_TTh x.HF]) fun l => ⟨(CS d_TPg) (at_ l 0), (CS d_TEv) (at_ l 2), dI (at_ l 5), d_TSt (at_ l 6), d_TSt (at_ l 7), d_TTh (at_ l 8)⟩
structure X_f7_23 where
 Da : TPg
 Cd : TEv
 ND : Int
 Bt : TSt
 HX : TSt
 HF : TTh
def S_f7_23 : AM :=
 Ad Tryz.f76 23 (an [3, 4, 5, 6, 7, 9]) [] [(.loc 4 0, sh_TSt), (.loc 6 0, sh_TSt), (.loc 7 0, sh_TTh)] X_f7_23 (fun x => [(CR e_TPg) x.Da, (V.ptr (.loc 4 0) []), (CR e_TEv) x.Cd, (V.ptr (.loc 6 0) []), (V.ptr (.loc 7 0) []), (V.int .u64) x.ND, e_TSt x.Bt, e_TSt x.HX, e_TTh x.HF]) fun l => ⟨(CS d_TPg) (at_ l 0), (CS d_TEv) (at_ l 2), dI (at_ l 5), d_TSt (at_ l 6), d_TSt (at_ l 7), d_TTh (at_ l 8)⟩
structure X_f7_25 where
 Da : TPg
 Cd : TEv
 ND : Int
 Bt : TSt
 HX : TSt
 HF : TTh
def S_f7_25 : AM :=
 Ad Tryz.f76 25 (an [3, 4, 5, 6, 7, 9]) [] [(.loc 4 0, sh_TSt), (.loc 6 0, sh_TSt), (.loc 7 0, sh_TTh)] X_f7_25 (fun x => [(CR e_TPg) x.Da, (V.ptr (.loc 4 0) []), (CR e_TEv) x.Cd, (V.ptr (.loc 6 0) []), (V.ptr (.loc 7 0) []), (V.int .u64) x.ND, e_TSt x.Bt, e_TSt x.HX, e_TTh x.HF]) fun l => ⟨(CS d_TPg) (at_ l 0), (CS d_TEv) (at_ l 2), dI (at_ l 5), d_TSt (at_ l 6), d_TSt (at_ l 7), d_TTh (at_ l 8)⟩
def tt_f7_25 (x : X_f7_25) : TT Tryz.prog R_f7 :=
 (.need (true && (room ((0 : Nat) + x.Bt.AB.n) 128)) <|
 (.need (A0 x.Cd.Thread x.Da.AB.n) <|
 (.call con_fp ((x.Da.AB.get (Int.toNat x.Cd.Thread)), (x.HF, (x.Cd, x.ND))) fun (y1 : R_fp) =>
 (.need (A0 x.Cd.Thread ((0 : Nat) + x.Bt.AB.n)) <|
 (.need ((Nat.beq ((0 : Nat) + x.Bt.AB.n) ((0 : Nat) + x.Bt.AB.n)) && true) <|
 (.need (Nat.beq ((0 : Nat) + x.Bt.AB.n) ((0 : Nat) + x.Bt.AB.n)) <|
 (.side (∀ i2 : Nat, ((i2 < ((0 : Nat) + x.Bt.AB.n)) → ((true && (true && (true && (true && (true && ((true && (true && (true && (true && (true && (true && (true && (true && true)))))))) && (true && true))))))) = true))) <|
 (.ret (TSt.mk (Sl.mk (cond (Nat.beq x.Bt.AB.n 0) false false) ((0 : Nat) + x.Bt.AB.n) (fun i2 => (TTh.mk (cond (Nat.beq i2 ((0 : Nat) + (Int.toNat x.Cd.Thread))) y1.At (cond (Nat.blt i2 0) (0 : Int) (x.Bt.AB.get (i2 - 0)).At)) (cond (Nat.beq i2 ((0 : Nat) + (Int.toNat x.Cd.Thread))) y1.Phase (cond (Nat.blt i2 0) (0 : Int) (x.Bt.AB.get (i2 - 0)).Phase)) (cond (Nat.beq i2 ((0 : Nat) + (Int.toNat x.Cd.Thread))) y1.Ring (cond (Nat.blt i2 0) (0 : Int) (x.Bt.AB.get (i2 - 0)).Ring)) (cond (Nat.beq i2 ((0 : Nat) + (Int.toNat x.Cd.Thread))) y1.Status (cond (Nat.blt i2 0) (0 : Int) (x.Bt.AB.get (i2 - 0)).Status)) (cond (Nat.beq i2 ((0 : Nat) + (Int.toNat x.Cd.Thread))) y1.AG (cond (Nat.blt i2 0) (0 : Int) (x.Bt.AB.get (i2 - 0)).AG)) (fun i3 => (cond (Nat.beq i2 ((0 : Nat) + (Int.toNat x.Cd.Thread))) (y1.Af i3) (cond (Nat.blt i2 0) (0 : Int) ((x.Bt.AB.get (i2 - 0)).Af i3)))) (Sl.mk (cond (Nat.beq i2 ((0 : Nat) + (Int.toNat x.Cd.Thread))) y1.Seen.nil (cond (Nat.blt i2 0) true (x.Bt.AB.get (i2 - 0)).Seen.nil)) (cond (Nat.beq i2 ((0 : Nat) + (Int.toNat x.Cd.Thread))) y1.Seen.n (cond (Nat.blt i2 0) (0 : Nat) (x.Bt.AB.get (i2 - 0)).Seen.n)) (fun i3 => (cond (Nat.beq i2 ((0 : Nat) + (Int.toNat x.Cd.Thread))) (y1.Seen.get i3) (cond (Nat.blt i2 0) (0 : Int) ((x.Bt.AB.get (i2 - 0)).Seen.get i3)))))))) x.Bt.AJ x.Bt.FD x.Bt.Reads x.Bt.CF)))))))))
theorem sd_f7_25 (x : X_f7_25) : (tt_f7_25 x).AH :=
 (TT.sN (TT.sN (TT.sC fun _ => (TT.sN (TT.sN (TT.sN (TT.sS (fun _ _ => rfl) TT.sR)))))))
def D_f7_25 : AQ X_f7_25 R_f7 := .of tt_f7_25
theorem ok_f7_25 : AV J_f7 S_f7_25 D_f7_25 :=
 lk mxk lbn sd_f7_25
def tt_f7_23 (x : X_f7_23) : TT Tryz.prog R_f7 :=
 (.ite (AX x.Cd.Kind 11)
 (.jump S_f7_25 D_f7_25 (X_f7_25.mk x.Da x.Cd x.ND (TSt.mk x.Bt.AB x.Bt.AJ x.Bt.FD x.Bt.Reads true) x.HX x.HF))
 (.jump S_f7_25 D_f7_25 (X_f7_25.mk x.Da x.Cd x.ND x.Bt x.HX x.HF)))
theorem sd_f7_23 (x : X_f7_23) : (tt_f7_23 x).AH :=
 (TT.sI TT.sJ TT.sJ)
def D_f7_23 : AQ X_f7_23 R_f7 := .of tt_f7_23
theorem ok_f7_23 : AV J_f7 S_f7_23 D_f7_23 :=
 lk mxk (lbc ok_f7_25 rfl lbn) sd_f7_23
def tt_f7_21 (x : X_f7_21) : TT Tryz.prog R_f7 :=
 (.ite (AX x.Cd.Kind 10)
 (.jump S_f7_23 D_f7_23 (X_f7_23.mk x.Da x.Cd x.ND (TSt.mk x.Bt.AB x.Bt.AJ x.Bt.FD (IntKind.u64.wrap (x.Bt.Reads + 1)) x.Bt.CF) x.HX x.HF))
 (.jump S_f7_23 D_f7_23 (X_f7_23.mk x.Da x.Cd x.ND x.Bt x.HX x.HF)))
theorem sd_f7_21 (x : X_f7_21) : (tt_f7_21 x).AH :=
 (TT.sI TT.sJ TT.sJ)
def D_f7_21 : AQ X_f7_21 R_f7 := .of tt_f7_21
theorem ok_f7_21 : AV J_f7 S_f7_21 D_f7_21 :=
 lk mxk (lbc ok_f7_25 rfl (lbc ok_f7_23 rfl lbn)) sd_f7_21
def tt_f7_19 (x : X_f7_19) : TT Tryz.prog R_f7 :=
 (.ite (AX x.Cd.Kind 8)
 (.ite (BS x.Bt.FD x.Cd.Value)
 (.jump S_f7_21 D_f7_21 (X_f7_21.mk x.Da x.Cd x.ND (TSt.mk x.Bt.AB x.Bt.AJ x.Cd.Value x.Bt.Reads x.Bt.CF) x.HX x.HF))
 (.jump S_f7_21 D_f7_21 (X_f7_21.mk x.Da x.Cd x.ND x.Bt x.HX x.HF)))
 (.jump S_f7_21 D_f7_21 (X_f7_21.mk x.Da x.Cd x.ND x.Bt x.HX x.HF)))
theorem sd_f7_19 (x : X_f7_19) : (tt_f7_19 x).AH :=
 (TT.sI (TT.sI TT.sJ TT.sJ) TT.sJ)
def D_f7_19 : AQ X_f7_19 R_f7 := .of tt_f7_19
theorem ok_f7_19 : AV J_f7 S_f7_19 D_f7_19 :=
 lk mxk (lbc ok_f7_25 rfl (lbc ok_f7_23 rfl (lbc ok_f7_21 rfl lbn))) sd_f7_19
def tt_f7_16 (x : X_f7_16) : TT Tryz.prog R_f7 :=
 (.need (true && (room ((0 : Nat) + x.Bt.AJ.n) 64)) <|
 (.call con_f3l x.I1 fun (y1 : R_f3l) =>
 (.need (A0 x.Cd.Ring ((0 : Nat) + x.Bt.AJ.n)) <|
 (.need ((Nat.beq ((0 : Nat) + x.Bt.AJ.n) ((0 : Nat) + x.Bt.AJ.n)) && true) <|
 (.need (Nat.beq ((0 : Nat) + x.Bt.AJ.n) ((0 : Nat) + x.Bt.AJ.n)) <|
 (.side (∀ i2 : Nat, ((i2 < ((0 : Nat) + x.Bt.AJ.n)) → ((true && (true && (true && (true && true)))) = true))) <|
 (.jump S_f7_19 D_f7_19 (X_f7_19.mk x.Da x.Cd x.ND (TSt.mk x.Bt.AB (Sl.mk (cond (Nat.beq x.Bt.AJ.n 0) false false) ((0 : Nat) + x.Bt.AJ.n) (fun i2 => (TRs.mk (cond (Nat.beq i2 ((0 : Nat) + (Int.toNat x.Cd.Ring))) y1.Aq (cond (Nat.blt i2 0) (0 : Int) (x.Bt.AJ.get (i2 - 0)).Aq)) (Sl.mk (cond (Nat.beq i2 ((0 : Nat) + (Int.toNat x.Cd.Ring))) y1.AY.nil (cond (Nat.blt i2 0) true (x.Bt.AJ.get (i2 - 0)).AY.nil)) (cond (Nat.beq i2 ((0 : Nat) + (Int.toNat x.Cd.Ring))) y1.AY.n (cond (Nat.blt i2 0) (0 : Nat) (x.Bt.AJ.get (i2 - 0)).AY.n)) (fun i3 => (cond (Nat.beq i2 ((0 : Nat) + (Int.toNat x.Cd.Ring))) (y1.AY.get i3) (cond (Nat.blt i2 0) (0 : Int) ((x.Bt.AJ.get (i2 - 0)).AY.get i3))))) (cond (Nat.beq i2 ((0 : Nat) + (Int.toNat x.Cd.Ring))) y1.Aw (cond (Nat.blt i2 0) false (x.Bt.AJ.get (i2 - 0)).Aw)) (Sl.mk (cond (Nat.beq i2 ((0 : Nat) + (Int.toNat x.Cd.Ring))) y1.Ao.nil (cond (Nat.blt i2 0) true (x.Bt.AJ.get (i2 - 0)).Ao.nil)) (cond (Nat.beq i2 ((0 : Nat) + (Int.toNat x.Cd.Ring))) y1.Ao.n (cond (Nat.blt i2 0) (0 : Nat) (x.Bt.AJ.get (i2 - 0)).Ao.n)) (fun i3 => (TSo.mk (cond (Nat.beq i2 ((0 : Nat) + (Int.toNat x.Cd.Ring))) (y1.Ao.get i3).AO (cond (Nat.blt i2 0) (0 : Int) ((x.Bt.AJ.get (i2 - 0)).Ao.get i3).AO)) (cond (Nat.beq i2 ((0 : Nat) + (Int.toNat x.Cd.Ring))) (y1.Ao.get i3).Value (cond (Nat.blt i2 0) (0 : Int) ((x.Bt.AJ.get (i2 - 0)).Ao.get i3).Value)) (cond (Nat.beq i2 ((0 : Nat) + (Int.toNat x.Cd.Ring))) (y1.Ao.get i3).Left (cond (Nat.blt i2 0) (0 : Int) ((x.Bt.AJ.get (i2 - 0)).Ao.get i3).Left)))))))) x.Bt.FD x.Bt.Reads x.Bt.CF) x.HX x.HF))))))))
theorem sd_f7_16 (x : X_f7_16) : (tt_f7_16 x).AH :=
 (TT.sN (TT.sC fun _ => (TT.sN (TT.sN (TT.sN (TT.sS (fun _ _ => rfl) TT.sJ))))))
def D_f7_16 : AQ X_f7_16 R_f7 := .of tt_f7_16
theorem ok_f7_16 : AV J_f7 S_f7_16 D_f7_16 :=
 lk mxk (lbc ok_f7_25 rfl (lbc ok_f7_23 rfl (lbc ok_f7_21 rfl (lbc ok_f7_19 rfl lbn)))) sd_f7_16
def tt_f7 (x : X_f7) : TT Tryz.prog R_f7 :=
 (.need (A0 x.snd.snd.Thread x.fst.AB.n) <|
 (.need (A0 x.snd.snd.Thread x.snd.fst.AB.n) <|
 (.call con_fk ((x.fst.AB.get (Int.toNat x.snd.snd.Thread)), (x.snd.fst.AB.get (Int.toNat x.snd.snd.Thread))) fun (y1 : R_fk) =>
 (.ite (Bd x.snd.snd.Kind 4)
 (.call con_f3s (x.fst, (x.snd.fst, x.snd.snd.Ring)) fun (y2 : R_f3s) =>
 (.ite (AX x.snd.snd.Kind 1)
 (.jump S_f7_16 D_f7_16 (X_f7_16.mk x.fst x.snd.snd 0 x.snd.fst (TSt.mk (Sl.mk true 0 (fun _i3 => (TTh.mk 0 0 0 0 0 (fun _i4 => (0 : Int)) (Sl.mk true 0 (fun _i4 => (0 : Int)))))) (Sl.mk true 0 (fun _i3 => (TRs.mk 0 (Sl.mk true 0 (fun _i4 => (0 : Int))) false (Sl.mk true 0 (fun _i4 => (TSo.mk 0 0 0)))))) 0 0 false) y1.fst (TR3.mk y2.Cn (IntKind.u64.wrap (y2.Aq + 1)) y2.AY y2.Aw y2.S)))
 (.ite (AX x.snd.snd.Kind 2)
 (.call con_f35 (y2, (x.snd.snd.AG, y1.snd.Value)) fun (y3 : R_f35) =>
 (.jump S_f7_16 D_f7_16 (X_f7_16.mk x.fst x.snd.snd 0 x.snd.fst (TSt.mk (Sl.mk true 0 (fun _i4 => (TTh.mk 0 0 0 0 0 (fun _i5 => (0 : Int)) (Sl.mk true 0 (fun _i5 => (0 : Int)))))) (Sl.mk true 0 (fun _i4 => (TRs.mk 0 (Sl.mk true 0 (fun _i5 => (0 : Int))) false (Sl.mk true 0 (fun _i5 => (TSo.mk 0 0 0)))))) 0 0 false) y1.fst y3.snd)))
 (.ite (AX x.snd.snd.Kind 3)
 (.call con_f2x (y2, y1.snd.Reader) fun (y3 : R_f2x) =>
 (.jump S_f7_16 D_f7_16 (X_f7_16.mk x.fst x.snd.snd 0 x.snd.fst (TSt.mk (Sl.mk true 0 (fun _i4 => (TTh.mk 0 0 0 0 0 (fun _i5 => (0 : Int)) (Sl.mk true 0 (fun _i5 => (0 : Int)))))) (Sl.mk true 0 (fun _i4 => (TRs.mk 0 (Sl.mk true 0 (fun _i5 => (0 : Int))) false (Sl.mk true 0 (fun _i5 => (TSo.mk 0 0 0)))))) 0 0 false) y1.fst y3.snd.snd)))
 (.ite (AX x.snd.snd.Kind 4)
 (.call con_f1o (y2, (y1.snd.Reader, x.snd.snd.AG)) fun (y3 : R_f1o) =>
 (.jump S_f7_16 D_f7_16 (X_f7_16.mk x.fst x.snd.snd y3.fst x.snd.fst (TSt.mk (Sl.mk true 0 (fun _i4 => (TTh.mk 0 0 0 0 0 (fun _i5 => (0 : Int)) (Sl.mk true 0 (fun _i5 => (0 : Int)))))) (Sl.mk true 0 (fun _i4 => (TRs.mk 0 (Sl.mk true 0 (fun _i5 => (0 : Int))) false (Sl.mk true 0 (fun _i5 => (TSo.mk 0 0 0)))))) 0 0 false) y1.fst y3.snd.snd)))
 (.ite (AX x.snd.snd.Kind 13)
 (.jump S_f7_16 D_f7_16 (X_f7_16.mk x.fst x.snd.snd 0 x.snd.fst (TSt.mk (Sl.mk true 0 (fun _i3 => (TTh.mk 0 0 0 0 0 (fun _i4 => (0 : Int)) (Sl.mk true 0 (fun _i4 => (0 : Int)))))) (Sl.mk true 0 (fun _i3 => (TRs.mk 0 (Sl.mk true 0 (fun _i4 => (0 : Int))) false (Sl.mk true 0 (fun _i4 => (TSo.mk 0 0 0)))))) 0 0 false) y1.fst (TR3.mk y2.Cn y2.Aq y2.AY true y2.S)))
 (.jump S_f7_16 D_f7_16 (X_f7_16.mk x.fst x.snd.snd 0 x.snd.fst (TSt.mk (Sl.mk true 0 (fun _i3 => (TTh.mk 0 0 0 0 0 (fun _i4 => (0 : Int)) (Sl.mk true 0 (fun _i4 => (0 : Int)))))) (Sl.mk true 0 (fun _i3 => (TRs.mk 0 (Sl.mk true 0 (fun _i4 => (0 : Int))) false (Sl.mk true 0 (fun _i4 => (TSo.mk 0 0 0)))))) 0 0 false) y1.fst y2))))))))
 (.ite (AX x.snd.snd.Kind 13)
 (.call con_f3s (x.fst, (x.snd.fst, x.snd.snd.Ring)) fun (y2 : R_f3s) =>
 (.ite (AX x.snd.snd.Kind 1)
 (.jump S_f7_16 D_f7_16 (X_f7_16.mk x.fst x.snd.snd 0 x.snd.fst (TSt.mk (Sl.mk true 0 (fun _i3 => (TTh.mk 0 0 0 0 0 (fun _i4 => (0 : Int)) (Sl.mk true 0 (fun _i4 => (0 : Int)))))) (Sl.mk true 0 (fun _i3 => (TRs.mk 0 (Sl.mk true 0 (fun _i4 => (0 : Int))) false (Sl.mk true 0 (fun _i4 => (TSo.mk 0 0 0)))))) 0 0 false) y1.fst (TR3.mk y2.Cn (IntKind.u64.wrap (y2.Aq + 1)) y2.AY y2.Aw y2.S)))
 (.ite (AX x.snd.snd.Kind 2)
 (.call con_f35 (y2, (x.snd.snd.AG, y1.snd.Value)) fun (y3 : R_f35) =>
 (.jump S_f7_16 D_f7_16 (X_f7_16.mk x.fst x.snd.snd 0 x.snd.fst (TSt.mk (Sl.mk true 0 (fun _i4 => (TTh.mk 0 0 0 0 0 (fun _i5 => (0 : Int)) (Sl.mk true 0 (fun _i5 => (0 : Int)))))) (Sl.mk true 0 (fun _i4 => (TRs.mk 0 (Sl.mk true 0 (fun _i5 => (0 : Int))) false (Sl.mk true 0 (fun _i5 => (TSo.mk 0 0 0)))))) 0 0 false) y1.fst y3.snd)))
 (.ite (AX x.snd.snd.Kind 3)
 (.call con_f2x (y2, y1.snd.Reader) fun (y3 : R_f2x) =>
 (.jump S_f7_16 D_f7_16 (X_f7_16.mk x.fst x.snd.snd 0 x.snd.fst (TSt.mk (Sl.mk true 0 (fun _i4 => (TTh.mk 0 0 0 0 0 (fun _i5 => (0 : Int)) (Sl.mk true 0 (fun _i5 => (0 : Int)))))) (Sl.mk true 0 (fun _i4 => (TRs.mk 0 (Sl.mk true 0 (fun _i5 => (0 : Int))) false (Sl.mk true 0 (fun _i5 => (TSo.mk 0 0 0)))))) 0 0 false) y1.fst y3.snd.snd)))
 (.ite (AX x.snd.snd.Kind 4)
 (.call con_f1o (y2, (y1.snd.Reader, x.snd.snd.AG)) fun (y3 : R_f1o) =>
 (.jump S_f7_16 D_f7_16 (X_f7_16.mk x.fst x.snd.snd y3.fst x.snd.fst (TSt.mk (Sl.mk true 0 (fun _i4 => (TTh.mk 0 0 0 0 0 (fun _i5 => (0 : Int)) (Sl.mk true 0 (fun _i5 => (0 : Int)))))) (Sl.mk true 0 (fun _i4 => (TRs.mk 0 (Sl.mk true 0 (fun _i5 => (0 : Int))) false (Sl.mk true 0 (fun _i5 => (TSo.mk 0 0 0)))))) 0 0 false) y1.fst y3.snd.snd)))
 (.ite (AX x.snd.snd.Kind 13)
 (.jump S_f7_16 D_f7_16 (X_f7_16.mk x.fst x.snd.snd 0 x.snd.fst (TSt.mk (Sl.mk true 0 (fun _i3 => (TTh.mk 0 0 0 0 0 (fun _i4 => (0 : Int)) (Sl.mk true 0 (fun _i4 => (0 : Int)))))) (Sl.mk true 0 (fun _i3 => (TRs.mk 0 (Sl.mk true 0 (fun _i4 => (0 : Int))) false (Sl.mk true 0 (fun _i4 => (TSo.mk 0 0 0)))))) 0 0 false) y1.fst (TR3.mk y2.Cn y2.Aq y2.AY true y2.S)))
 (.jump S_f7_16 D_f7_16 (X_f7_16.mk x.fst x.snd.snd 0 x.snd.fst (TSt.mk (Sl.mk true 0 (fun _i3 => (TTh.mk 0 0 0 0 0 (fun _i4 => (0 : Int)) (Sl.mk true 0 (fun _i4 => (0 : Int)))))) (Sl.mk true 0 (fun _i3 => (TRs.mk 0 (Sl.mk true 0 (fun _i4 => (0 : Int))) false (Sl.mk true 0 (fun _i4 => (TSo.mk 0 0 0)))))) 0 0 false) y1.fst y2))))))))
 (.jump S_f7_19 D_f7_19 (X_f7_19.mk x.fst x.snd.snd 0 x.snd.fst (TSt.mk (Sl.mk true 0 (fun _i2 => (TTh.mk 0 0 0 0 0 (fun _i3 => (0 : Int)) (Sl.mk true 0 (fun _i3 => (0 : Int)))))) (Sl.mk true 0 (fun _i2 => (TRs.mk 0 (Sl.mk true 0 (fun _i3 => (0 : Int))) false (Sl.mk true 0 (fun _i3 => (TSo.mk 0 0 0)))))) 0 0 false) y1.fst)))))))
theorem sd_f7 (x : X_f7) : (tt_f7 x).AH :=
 (TT.sN (TT.sN (TT.sC fun _ => (TT.sI (TT.sC fun _ => (TT.sI TT.sJ (TT.sI (TT.sC fun _ => TT.sJ) (TT.sI (TT.sC fun _ => TT.sJ) (TT.sI (TT.sC fun _ => TT.sJ) (TT.sI TT.sJ TT.sJ)))))) (TT.sI (TT.sC fun _ => (TT.sI TT.sJ (TT.sI (TT.sC fun _ => TT.sJ) (TT.sI (TT.sC fun _ => TT.sJ) (TT.sI (TT.sC fun _ => TT.sJ) (TT.sI TT.sJ TT.sJ)))))) TT.sJ)))))
def D_f7 : AQ X_f7 R_f7 := .of tt_f7
def con_f7 : A3 Tryz.prog :=
 BZ 76 J_f7 S_f7 D_f7 3 0 [sh_TPg, sh_TSt, .any] (lk mxk (lbc ok_f7_25 rfl (lbc ok_f7_23 rfl (lbc ok_f7_21 rfl (lbc ok_f7_19 rfl (lbc ok_f7_16 rfl lbn))))) sd_f7)
abbrev X_f4j : Type := TPg × TSt × TEv
abbrev R_f4j : Type := Int × TSt
def J_f4j : A9 Tryz.prog :=
 BF Tryz.prog Tryz.f42 27 [(3, 3), (4, 3), (5, 3)] [] [] [] [.any, sh_TSt] [] [con_f3e, con_f3y, con_f7] R_f4j [] fun y => [V.CC (V.cons ((V.int .i64) y.1) (V.cons (e_TSt y.2) (V.unit)))]
def S_f4j : AM :=
 Ae Tryz.f42 3 0 X_f4j (fun x => [e_TPg x.1, e_TSt x.2.1, e_TEv x.2.2]) fun l => (d_TPg (at_ l 0), d_TSt (at_ l 1), d_TEv (at_ l 2))
def tt_f4j (x : X_f4j) : TT Tryz.prog R_f4j :=
 (.call con_f3y (x.fst, (x.snd.fst, x.snd.snd)) fun (y1 : R_f3y) =>
 (.ite (!(AX y1 0))
 (.ret (y1, x.snd.fst))
 (.call con_f3e (x.fst, (x.snd.fst, x.snd.snd)) fun (y2 : R_f3e) =>
 (.ite (!y2)
 (.ret (11, x.snd.fst))
 (.call con_f7 (x.fst, (x.snd.fst, x.snd.snd)) fun (y3 : R_f7) =>
 (.ret (0, y3)))))))
theorem sd_f4j (x : X_f4j) : (tt_f4j x).AH :=
 (TT.sC fun _ => (TT.sI TT.sR (TT.sC fun _ => (TT.sI TT.sR (TT.sC fun _ => TT.sR)))))
def D_f4j : AQ X_f4j R_f4j := .of tt_f4j
def con_f4j : A3 Tryz.prog :=
 BZ 42 J_f4j S_f4j D_f4j 3 0 [sh_TPg, sh_TSt, .any] (lk mxk lbn sd_f4j)
abbrev X_f1p : Type := TPg × (Sl TEv)
abbrev R_f1p : Type := TSt × Int
def J_f1p : A9 Tryz.prog :=
 BF Tryz.prog Tryz.f18 36 [(2, 3), (18, 1), (34, 1)] [] [] [] [sh_TSt, .any] [] [con_f4j, con_f2n] R_f1p [] fun y => [V.CC (V.cons (e_TSt y.1) (V.cons ((V.int .i64) y.2) (V.unit)))]
def S_f1p : AM :=
 Ae Tryz.f18 2 0 X_f1p (fun x => [e_TPg x.1, esl_TEv x.2]) fun l => (d_TPg (at_ l 0), dsl_TEv (at_ l 1))
structure X_f1p_3 where
 DS : (Sl TEv)
 KS : TPg
 T6 : Int
 Bt : TSt
 HX : TSt
def S_f1p_3 : AM :=
 Ad Tryz.f18 3 [(1, hsl_TEv), (2, .any), (4, .any), (6, .any), (7, .any)] [] [(.loc 4 0, sh_TSt), (.loc 6 0, sh_TSt)] X_f1p_3 (fun x => [esl_TEv x.DS, (CR e_TPg) x.KS, (V.ptr (.loc 4 0) []), (V.ptr (.loc 6 0) []), (V.int .i64) x.T6, e_TSt x.Bt, e_TSt x.HX]) fun l => ⟨dsl_TEv (at_ l 0), (CS d_TPg) (at_ l 1), dI (at_ l 4), d_TSt (at_ l 5), d_TSt (at_ l 6)⟩
structure X_f1p_9 where
 DS : (Sl TEv)
 Bt : TSt
 HX : TSt
def S_f1p_9 : AM :=
 Ad Tryz.f18 9 [(1, hsl_TEv), (4, .any), (6, .any)] [] [(.loc 4 0, sh_TSt), (.loc 6 0, sh_TSt)] X_f1p_9 (fun x => [esl_TEv x.DS, (V.ptr (.loc 4 0) []), (V.ptr (.loc 6 0) []), e_TSt x.Bt, e_TSt x.HX]) fun l => ⟨dsl_TEv (at_ l 0), d_TSt (at_ l 3), d_TSt (at_ l 4)⟩
def tt_f1p_9 (x : X_f1p_9) : TT Tryz.prog R_f1p :=
 (.ret (x.HX, ((x.DS.n : Nat) : Int)))
theorem sd_f1p_9 (x : X_f1p_9) : (tt_f1p_9 x).AH :=
 TT.sR
def D_f1p_9 : AQ X_f1p_9 R_f1p := .of tt_f1p_9
theorem ok_f1p_9 : AV J_f1p S_f1p_9 D_f1p_9 :=
 lk mxk lbn sd_f1p_9
def tt_f1p_3 (D_f1p_3 : AQ X_f1p_3 R_f1p) (x : X_f1p_3) : TT Tryz.prog R_f1p :=
 (.ite (BS x.T6 ((x.DS.n : Nat) : Int))
 (.need (A0 x.T6 x.DS.n) <|
 (.call con_f4j (x.KS, (x.HX, (x.DS.get (Int.toNat x.T6)))) fun (y2 : R_f4j) =>
 (.ite (!(AX y2.fst 0))
 (.ret (x.HX, x.T6))
 (.jump S_f1p_3 D_f1p_3 (X_f1p_3.mk x.DS x.KS (IntKind.i64.wrap (x.T6 + 1)) x.Bt y2.snd)))))
 (.jump S_f1p_9 D_f1p_9 (X_f1p_9.mk x.DS x.Bt x.HX)))
theorem sd_f1p_3 (D_f1p_3 : AQ X_f1p_3 R_f1p) (x : X_f1p_3) : (tt_f1p_3 D_f1p_3 x).AH :=
 (TT.sI (TT.sN (TT.sC fun _ => (TT.sI TT.sR TT.sJ))) TT.sJ)
def D_f1p_3 : AQ X_f1p_3 R_f1p := AQ.loop tt_f1p_3
theorem ok_f1p_3 : AV J_f1p S_f1p_3 D_f1p_3 :=
 Az fun D_f1p_3 h_3 => lk mxk (lbc h_3 rfl (lbc ok_f1p_9 rfl lbn)) (sd_f1p_3 D_f1p_3)
def tt_f1p (x : X_f1p) : TT Tryz.prog R_f1p :=
 (.call con_f2n x.fst fun (y1 : R_f2n) =>
 (.jump S_f1p_3 D_f1p_3 (X_f1p_3.mk x.snd x.fst 0 (TSt.mk (Sl.mk true 0 (fun _i2 => (TTh.mk 0 0 0 0 0 (fun _i3 => (0 : Int)) (Sl.mk true 0 (fun _i3 => (0 : Int)))))) (Sl.mk true 0 (fun _i2 => (TRs.mk 0 (Sl.mk true 0 (fun _i3 => (0 : Int))) false (Sl.mk true 0 (fun _i3 => (TSo.mk 0 0 0)))))) 0 0 false) y1)))
theorem sd_f1p (x : X_f1p) : (tt_f1p x).AH :=
 (TT.sC fun _ => TT.sJ)
def D_f1p : AQ X_f1p R_f1p := .of tt_f1p
def con_f1p : A3 Tryz.prog :=
 BZ 18 J_f1p S_f1p D_f1p 2 0 [sh_TPg, hsl_TEv] (lk mxk (lbc ok_f1p_9 rfl (lbc ok_f1p_3 rfl lbn)) sd_f1p)
abbrev X_f43 : Type := TPg × (Sl TEv)
abbrev R_f43 : Type := Int
def J_f43 : A9 Tryz.prog :=
 BF Tryz.prog Tryz.f16 14 [(2, 3), (7, 1), (9, 1)] [] [] [] [.any] [] [con_f1p] R_f43 [] fun y => [(V.int .i64) y]
def S_f43 : AM :=
 Ae Tryz.f16 2 0 X_f43 (fun x => [e_TPg x.1, esl_TEv x.2]) fun l => (d_TPg (at_ l 0), dsl_TEv (at_ l 1))
def tt_f43 (x : X_f43) : TT Tryz.prog R_f43 :=
 (.call con_f1p (x.fst, x.snd) fun (y1 : R_f1p) =>
 (.ret y1.snd))
theorem sd_f43 (x : X_f43) : (tt_f43 x).AH :=
 (TT.sC fun _ => TT.sR)
def D_f43 : AQ X_f43 R_f43 := .of tt_f43
def con_f43 : A3 Tryz.prog :=
 BZ 16 J_f43 S_f43 D_f43 2 0 [sh_TPg, hsl_TEv] (lk mxk lbn sd_f43)
abbrev X_f1j : Type := Int × TFa
abbrev R_f1j : Type := Bool
abbrev RR_f1j : Type := Bool × TFa
abbrev p_f1j (y : RR_f1j) : TFa := y.2
abbrev w_f1j (x : X_f1j) : TFa := x.2
def J_f1j : A9 Tryz.prog :=
 BF Tryz.prog Tryz.f28 19 [] [] [] [.back (.loc 12 0)] [.any] [sh_TFa] [con_f18] RR_f1j [] fun y => [V.bool y.1, e_TFa y.2]
def S_f1j : AM :=
 Ae Tryz.f28 2 1 X_f1j (fun x => [(V.ptr (.par 0) []), (V.int .i64) x.1, e_TFa x.2]) fun l => (dI (at_ l 1), d_TFa (at_ l 2))
def tt_f1j (x : X_f1j) : TT Tryz.prog RR_f1j :=
 (.call con_f18 (x.fst, x.snd) fun (y1 : R_f18) =>
 (.ite y1
 (.need (A0 x.fst x.snd.threads.n) <|
 (.need ((Nat.beq x.snd.threads.n x.snd.threads.n) && true) <|
 (.need ((true && true) && (Nat.beq x.snd.threads.n x.snd.threads.n)) <|
 (.ret ((AX (x.snd.threads.get ((0 : Nat) + (Int.toNat x.fst))).Status 0), x.snd)))))
 (.ret (false, x.snd))))
theorem sd_f1j (x : X_f1j) : (tt_f1j x).AH :=
 (TT.sC fun _ => (TT.sI (TT.sN (TT.sN (TT.sN TT.sR))) TT.sR))
theorem roT_f1j (x : X_f1j) : TT.Ro p_f1j (w_f1j x) (tt_f1j x) :=
 (TT.rC fun _ => (TT.rI (TT.rN (TT.rN (TT.rN (TT.rR rfl)))) (TT.rR rfl)))
def D_f1j : AQ X_f1j R_f1j := .ro (.of tt_f1j) (fun y => (y.1)) (fun y x => (y, x.2)) fun x y h => congrArg (fun o => (y.1, o)) (roT_f1j x y h)
def con_f1j : A3 Tryz.prog :=
 C3 28 J_f1j S_f1j (.of tt_f1j) D_f1j (fun y x => (y, x.2)) (fun y => V.bool y) 2 1 [.any, .any] (lk mxk lbn sd_f1j) (fun x => ⟨(nu_e_TFa : ∀ y, (e_TFa y).CV) (x.2), trivial⟩)
abbrev X_f0 : Type := TPg × (Sl TEv) × TEv
abbrev R_f0 : Type := Bool
def J_f0 : A9 Tryz.prog :=
 BF Tryz.prog Tryz.f7 109 [(3, 3), (5, 3), (38, 1), (61, 1), (81, 1)] [(4, [.open_ 7])] [] [] [.any] [] [con_fe, con_f2k, con_f1j, con_f1h, con_f2e, con_f43, con_f3f, con_f4g] R_f0 [] fun y => [V.bool y]
def S_f0 : AM :=
 Ae Tryz.f7 3 0 X_f0 (fun x => [e_TPg x.1, esl_TEv x.2.1, e_TEv x.2.2]) fun l => (d_TPg (at_ l 0), dsl_TEv (at_ l 1), d_TEv (at_ l 2))
structure X_f0_3 where
 DS : (Sl TEv)
 Da : TPg
 Cd : TEv
def S_f0_3 : AM :=
 Ad Tryz.f7 3 [(1, hsl_TEv), (3, .any), (5, .any)] [] [] X_f0_3 (fun x => [esl_TEv x.DS, (CR e_TPg) x.Da, (CR e_TEv) x.Cd]) fun l => ⟨dsl_TEv (at_ l 0), (CS d_TPg) (at_ l 1), (CS d_TEv) (at_ l 2)⟩
structure X_f0_7 where
 DS : (Sl TEv)
 Da : TPg
 Cd : TEv
 TG : (Sl TEv)
 TF : Int
 QS : Int
 DR : TFa
def S_f0_7 : AM :=
 Ad Tryz.f7 7 [(1, hsl_TEv), (3, .any), (5, .any), (7, .any), (45, hsl_TEv), (46, .any), (47, .any)] [] [(.loc 7 1, sh_TFa)] X_f0_7 (fun x => [esl_TEv x.DS, (CR e_TPg) x.Da, (CR e_TEv) x.Cd, (V.ptr (.loc 7 1) []), esl_TEv x.TG, (V.int .i64) x.TF, (V.int .i64) x.QS, e_TFa x.DR]) fun l => ⟨dsl_TEv (at_ l 0), (CS d_TPg) (at_ l 1), (CS d_TEv) (at_ l 2), dsl_TEv (at_ l 4), dI (at_ l 5), dI (at_ l 6), d_TFa (at_ l 7)⟩
structure X_f0_11 where
 DS : (Sl TEv)
 Da : TPg
 Cd : TEv
 DR : TFa
def S_f0_11 : AM :=
 Ad Tryz.f7 11 [(1, hsl_TEv), (3, .any), (5, .any), (7, .any)] [] [(.loc 7 1, sh_TFa)] X_f0_11 (fun x => [esl_TEv x.DS, (CR e_TPg) x.Da, (CR e_TEv) x.Cd, (V.ptr (.loc 7 1) []), e_TFa x.DR]) fun l => ⟨dsl_TEv (at_ l 0), (CS d_TPg) (at_ l 1), (CS d_TEv) (at_ l 2), d_TFa (at_ l 4)⟩
structure X_f0_12 where
 DS : (Sl TEv)
 Da : TPg
 Cd : TEv
 Du : Int
 DU : Int
 DR : TFa
def S_f0_12 : AM :=
 Ad Tryz.f7 12 [(1, hsl_TEv), (3, .any), (5, .any), (7, .any), (57, .any), (58, .any)] [] [(.loc 7 1, sh_TFa)] X_f0_12 (fun x => [esl_TEv x.DS, (CR e_TPg) x.Da, (CR e_TEv) x.Cd, (V.ptr (.loc 7 1) []), (V.int .i64) x.Du, (V.int .i64) x.DU, e_TFa x.DR]) fun l => ⟨dsl_TEv (at_ l 0), (CS d_TPg) (at_ l 1), (CS d_TEv) (at_ l 2), dI (at_ l 4), dI (at_ l 5), d_TFa (at_ l 6)⟩
structure X_f0_17 where
 DS : (Sl TEv)
 Da : TPg
 Cd : TEv
 Ia : Int
 PQ : (Sl Int)
 Du : Int
 DU : Int
 DR : TFa
def S_f0_17 : AM :=
 Ad Tryz.f7 17 [(1, hsl_TEv), (3, .any), (5, .any), (7, .any), (11, .any), (12, Dc), (57, .any), (58, .any)] [] [(.loc 7 1, sh_TFa)] X_f0_17 (fun x => [esl_TEv x.DS, (CR e_TPg) x.Da, (CR e_TEv) x.Cd, (V.ptr (.loc 7 1) []), (V.int .i64) x.Ia, DD x.PQ, (V.int .i64) x.Du, (V.int .i64) x.DU, e_TFa x.DR]) fun l => ⟨dsl_TEv (at_ l 0), (CS d_TPg) (at_ l 1), (CS d_TEv) (at_ l 2), dI (at_ l 4), EV (at_ l 5), dI (at_ l 6), dI (at_ l 7), d_TFa (at_ l 8)⟩
structure X_f0_19 where
 DS : (Sl TEv)
 Da : TPg
 Cd : TEv
 Ia : Int
 GL : Bool
 Du : Int
 DU : Int
 Nd : (Sl Int)
 Nc : Int
 LO : Int
 DR : TFa
def S_f0_19 : AM :=
 Ad Tryz.f7 19 [(1, hsl_TEv), (3, .any), (5, .any), (7, .any), (11, .any), (14, .any), (57, .any), (58, .any), (81, Dc), (82, .any), (83, .any)] [] [(.loc 7 1, sh_TFa)] X_f0_19 (fun x => [esl_TEv x.DS, (CR e_TPg) x.Da, (CR e_TEv) x.Cd, (V.ptr (.loc 7 1) []), (V.int .i64) x.Ia, V.bool x.GL, (V.int .i64) x.Du, (V.int .i64) x.DU, DD x.Nd, (V.int .i64) x.Nc, (V.int .i64) x.LO, e_TFa x.DR]) fun l => ⟨dsl_TEv (at_ l 0), (CS d_TPg) (at_ l 1), (CS d_TEv) (at_ l 2), dI (at_ l 4), dB (at_ l 5), dI (at_ l 6), dI (at_ l 7), EV (at_ l 8), dI (at_ l 9), dI (at_ l 10), d_TFa (at_ l 11)⟩
structure X_f0_22 where
 DS : (Sl TEv)
 Da : TPg
 Cd : TEv
 Ia : Int
 GL : Bool
 Du : Int
 DU : Int
 Nd : (Sl Int)
 Nc : Int
 LO : Int
 DR : TFa
def S_f0_22 : AM :=
 Ad Tryz.f7 22 [(1, hsl_TEv), (3, .any), (5, .any), (7, .any), (11, .any), (14, .any), (57, .any), (58, .any), (81, Dc), (82, .any), (83, .any)] [] [(.loc 7 1, sh_TFa)] X_f0_22 (fun x => [esl_TEv x.DS, (CR e_TPg) x.Da, (CR e_TEv) x.Cd, (V.ptr (.loc 7 1) []), (V.int .i64) x.Ia, V.bool x.GL, (V.int .i64) x.Du, (V.int .i64) x.DU, DD x.Nd, (V.int .i64) x.Nc, (V.int .i64) x.LO, e_TFa x.DR]) fun l => ⟨dsl_TEv (at_ l 0), (CS d_TPg) (at_ l 1), (CS d_TEv) (at_ l 2), dI (at_ l 4), dB (at_ l 5), dI (at_ l 6), dI (at_ l 7), EV (at_ l 8), dI (at_ l 9), dI (at_ l 10), d_TFa (at_ l 11)⟩
structure X_f0_23 where
 DS : (Sl TEv)
 Da : TPg
 Cd : TEv
 Ia : Int
 GL : Bool
 Du : Int
 DU : Int
 DR : TFa
def S_f0_23 : AM :=
 Ad Tryz.f7 23 [(1, hsl_TEv), (3, .any), (5, .any), (7, .any), (11, .any), (14, .any), (57, .any), (58, .any)] [] [(.loc 7 1, sh_TFa)] X_f0_23 (fun x => [esl_TEv x.DS, (CR e_TPg) x.Da, (CR e_TEv) x.Cd, (V.ptr (.loc 7 1) []), (V.int .i64) x.Ia, V.bool x.GL, (V.int .i64) x.Du, (V.int .i64) x.DU, e_TFa x.DR]) fun l => ⟨dsl_TEv (at_ l 0), (CS d_TPg) (at_ l 1), (CS d_TEv) (at_ l 2), dI (at_ l 4), dB (at_ l 5), dI (at_ l 6), dI (at_ l 7), d_TFa (at_ l 8)⟩
structure X_f0_25 where
 DS : (Sl TEv)
 Da : TPg
 Cd : TEv
 Du : Int
 DU : Int
 DR : TFa
def S_f0_25 : AM :=
 Ad Tryz.f7 25 [(1, hsl_TEv), (3, .any), (5, .any), (7, .any), (57, .any), (58, .any)] [] [(.loc 7 1, sh_TFa)] X_f0_25 (fun x => [esl_TEv x.DS, (CR e_TPg) x.Da, (CR e_TEv) x.Cd, (V.ptr (.loc 7 1) []), (V.int .i64) x.Du, (V.int .i64) x.DU, e_TFa x.DR]) fun l => ⟨dsl_TEv (at_ l 0), (CS d_TPg) (at_ l 1), (CS d_TEv) (at_ l 2), dI (at_ l 4), dI (at_ l 5), d_TFa (at_ l 6)⟩
def tt_f0_25 (D_f0_12 : AQ X_f0_12 R_f0) (x : X_f0_25) : TT Tryz.prog R_f0 :=
 (.jump S_f0_12 D_f0_12 (X_f0_12.mk x.DS x.Da x.Cd x.Du (IntKind.i64.wrap (x.DU + 1)) x.DR))
theorem sd_f0_25 (D_f0_12 : AQ X_f0_12 R_f0) (x : X_f0_25) : (tt_f0_25 D_f0_12 x).AH :=
 TT.sJ
def D_f0_25 (D_f0_12 : AQ X_f0_12 R_f0) : AQ X_f0_25 R_f0 := .of (tt_f0_25 D_f0_12)
theorem ok_f0_25 (D_f0_12 : AQ X_f0_12 R_f0) (h_12 : AV J_f0 S_f0_12 D_f0_12) : AV J_f0 S_f0_25 (D_f0_25 D_f0_12) :=
 lk mxk (lbc h_12 rfl lbn) (sd_f0_25 D_f0_12)
def tt_f0_23 (D_f0_12 : AQ X_f0_12 R_f0) (x : X_f0_23) : TT Tryz.prog R_f0 :=
 (.ite (AX x.Cd.Thread x.Ia)
 (.call con_fe (x.Cd, x.DR) fun (y2 : R_fe) =>
 (.ite y2
 (.ite (!x.GL)
 (.ret false)
 (.jump S_f0_25 (D_f0_25 D_f0_12) (X_f0_25.mk x.DS x.Da x.Cd x.Du x.DU x.DR)))
 (.jump S_f0_25 (D_f0_25 D_f0_12) (X_f0_25.mk x.DS x.Da x.Cd x.Du x.DU x.DR))))
 (.jump S_f0_25 (D_f0_25 D_f0_12) (X_f0_25.mk x.DS x.Da x.Cd x.Du x.DU x.DR)))
theorem sd_f0_23 (D_f0_12 : AQ X_f0_12 R_f0) (x : X_f0_23) : (tt_f0_23 D_f0_12 x).AH :=
 (TT.sI (TT.sC fun _ => (TT.sI (TT.sI TT.sR TT.sJ) TT.sJ)) TT.sJ)
def D_f0_23 (D_f0_12 : AQ X_f0_12 R_f0) : AQ X_f0_23 R_f0 := .of (tt_f0_23 D_f0_12)
theorem ok_f0_23 (D_f0_12 : AQ X_f0_12 R_f0) (h_12 : AV J_f0 S_f0_12 D_f0_12) : AV J_f0 S_f0_23 (D_f0_23 D_f0_12) :=
 lk mxk (lbc h_12 rfl (lbc (ok_f0_25 D_f0_12 h_12) rfl lbn)) (sd_f0_23 D_f0_12)
def tt_f0_22 (_D_f0_12 : AQ X_f0_12 R_f0) (D_f0_19 : AQ X_f0_19 R_f0) (x : X_f0_22) : TT Tryz.prog R_f0 :=
 (.jump S_f0_19 D_f0_19 (X_f0_19.mk x.DS x.Da x.Cd x.Ia x.GL x.Du x.DU x.Nd x.Nc (IntKind.i64.wrap (x.LO + 1)) x.DR))
theorem sd_f0_22 (D_f0_12 : AQ X_f0_12 R_f0) (D_f0_19 : AQ X_f0_19 R_f0) (x : X_f0_22) : (tt_f0_22 D_f0_12 D_f0_19 x).AH :=
 TT.sJ
def D_f0_22 (D_f0_12 : AQ X_f0_12 R_f0) (D_f0_19 : AQ X_f0_19 R_f0) : AQ X_f0_22 R_f0 := .of (tt_f0_22 D_f0_12 D_f0_19)
theorem ok_f0_22 (D_f0_12 : AQ X_f0_12 R_f0) (D_f0_19 : AQ X_f0_19 R_f0) (h_12 : AV J_f0 S_f0_12 D_f0_12) (h_19 : AV J_f0 S_f0_19 D_f0_19) : AV J_f0 S_f0_22 (D_f0_22 D_f0_12 D_f0_19) :=
 lk mxk (lbc h_12 rfl (lbc h_19 rfl (lbc (ok_f0_25 D_f0_12 h_12) rfl (lbc (ok_f0_23 D_f0_12 h_12) rfl lbn)))) (sd_f0_22 D_f0_12 D_f0_19)
def tt_f0_19 (D_f0_12 : AQ X_f0_12 R_f0) (D_f0_19 : AQ X_f0_19 R_f0) (x : X_f0_19) : TT Tryz.prog R_f0 :=
 (.ite (BS x.LO x.Nc)
 (.need (A0 x.LO x.Nd.n) <|
 (.ite x.GL
 (.jump S_f0_22 (D_f0_22 D_f0_12 D_f0_19) (X_f0_22.mk x.DS x.Da x.Cd x.Ia true x.Du x.DU x.Nd x.Nc x.LO x.DR))
 (.jump S_f0_22 (D_f0_22 D_f0_12 D_f0_19) (X_f0_22.mk x.DS x.Da x.Cd x.Ia (AX (x.Nd.get (Int.toNat x.LO)) x.Cd.Kind) x.Du x.DU x.Nd x.Nc x.LO x.DR))))
 (.jump S_f0_23 (D_f0_23 D_f0_12) (X_f0_23.mk x.DS x.Da x.Cd x.Ia x.GL x.Du x.DU x.DR)))
theorem sd_f0_19 (D_f0_12 : AQ X_f0_12 R_f0) (D_f0_19 : AQ X_f0_19 R_f0) (x : X_f0_19) : (tt_f0_19 D_f0_12 D_f0_19 x).AH :=
 (TT.sI (TT.sN (TT.sI TT.sJ TT.sJ)) TT.sJ)
def D_f0_19 (D_f0_12 : AQ X_f0_12 R_f0) : AQ X_f0_19 R_f0 := AQ.loop (tt_f0_19 D_f0_12)
theorem ok_f0_19 (D_f0_12 : AQ X_f0_12 R_f0) (h_12 : AV J_f0 S_f0_12 D_f0_12) : AV J_f0 S_f0_19 (D_f0_19 D_f0_12) :=
 Az fun D_f0_19 h_19 => lk mxk (lbc h_12 rfl (lbc h_19 rfl (lbc (ok_f0_25 D_f0_12 h_12) rfl (lbc (ok_f0_23 D_f0_12 h_12) rfl (lbc (ok_f0_22 D_f0_12 D_f0_19 h_12 h_19) rfl lbn))))) (sd_f0_19 D_f0_12 D_f0_19)
def tt_f0_17 (D_f0_12 : AQ X_f0_12 R_f0) (x : X_f0_17) : TT Tryz.prog R_f0 :=
 (.jump S_f0_19 (D_f0_19 D_f0_12) (X_f0_19.mk x.DS x.Da x.Cd x.Ia false x.Du x.DU x.PQ ((x.PQ.n : Nat) : Int) 0 x.DR))
theorem sd_f0_17 (D_f0_12 : AQ X_f0_12 R_f0) (x : X_f0_17) : (tt_f0_17 D_f0_12 x).AH :=
 TT.sJ
def D_f0_17 (D_f0_12 : AQ X_f0_12 R_f0) : AQ X_f0_17 R_f0 := .of (tt_f0_17 D_f0_12)
theorem ok_f0_17 (D_f0_12 : AQ X_f0_12 R_f0) (h_12 : AV J_f0 S_f0_12 D_f0_12) : AV J_f0 S_f0_17 (D_f0_17 D_f0_12) :=
 lk mxk (lbc h_12 rfl (lbc (ok_f0_25 D_f0_12 h_12) rfl (lbc (ok_f0_23 D_f0_12 h_12) rfl (lbc (ok_f0_19 D_f0_12 h_12) rfl lbn)))) (sd_f0_17 D_f0_12)
def tt_f0_12 (D_f0_12 : AQ X_f0_12 R_f0) (x : X_f0_12) : TT Tryz.prog R_f0 :=
 (.ite (BS x.DU x.Du)
 (.call con_f2e (x.Da, (x.DS, x.DU)) fun (y2 : R_f2e) =>
 (.ite (!(AX y2.snd 0))
 (.ret false)
 (.call con_f1j (x.DU, x.DR) fun (y3 : R_f1j) =>
 (.ite (!y3)
 (.ite (BS 0 ((y2.fst.n : Nat) : Int))
 (.ret false)
 (.jump S_f0_17 (D_f0_17 D_f0_12) (X_f0_17.mk x.DS x.Da x.Cd x.DU y2.fst x.Du x.DU x.DR)))
 (.jump S_f0_17 (D_f0_17 D_f0_12) (X_f0_17.mk x.DS x.Da x.Cd x.DU y2.fst x.Du x.DU x.DR))))))
 (.ret true))
theorem sd_f0_12 (D_f0_12 : AQ X_f0_12 R_f0) (x : X_f0_12) : (tt_f0_12 D_f0_12 x).AH :=
 (TT.sI (TT.sC fun _ => (TT.sI TT.sR (TT.sC fun _ => (TT.sI (TT.sI TT.sR TT.sJ) TT.sJ)))) TT.sR)
def D_f0_12 : AQ X_f0_12 R_f0 := AQ.loop tt_f0_12
theorem ok_f0_12 : AV J_f0 S_f0_12 D_f0_12 :=
 Az fun D_f0_12 h_12 => lk mxk (lbc h_12 rfl (lbc (ok_f0_25 D_f0_12 h_12) rfl (lbc (ok_f0_23 D_f0_12 h_12) rfl (lbc (ok_f0_19 D_f0_12 h_12) rfl (lbc (ok_f0_17 D_f0_12 h_12) rfl lbn))))) (sd_f0_12 D_f0_12)
def tt_f0_11 (x : X_f0_11) : TT Tryz.prog R_f0 :=
 (.jump S_f0_12 D_f0_12 (X_f0_12.mk x.DS x.Da x.Cd ((x.Da.AB.n : Nat) : Int) 0 x.DR))
theorem sd_f0_11 (x : X_f0_11) : (tt_f0_11 x).AH :=
 TT.sJ
def D_f0_11 : AQ X_f0_11 R_f0 := .of tt_f0_11
theorem ok_f0_11 : AV J_f0 S_f0_11 D_f0_11 :=
 lk mxk (lbc ok_f0_12 rfl lbn) sd_f0_11
def tt_f0_7 (D_f0_7 : AQ X_f0_7 R_f0) (x : X_f0_7) : TT Tryz.prog R_f0 :=
 (.ite (BS x.QS x.TF)
 (.need (A0 x.QS x.TG.n) <|
 (.call con_f2k ((x.TG.get (Int.toNat x.QS)), x.DR) fun (y2 : R_f2k) =>
 (.jump S_f0_7 D_f0_7 (X_f0_7.mk x.DS x.Da x.Cd x.TG x.TF (IntKind.i64.wrap (x.QS + 1)) y2.snd))))
 (.jump S_f0_11 D_f0_11 (X_f0_11.mk x.DS x.Da x.Cd x.DR)))
theorem sd_f0_7 (D_f0_7 : AQ X_f0_7 R_f0) (x : X_f0_7) : (tt_f0_7 D_f0_7 x).AH :=
 (TT.sI (TT.sN (TT.sC fun _ => TT.sJ)) TT.sJ)
def D_f0_7 : AQ X_f0_7 R_f0 := AQ.loop tt_f0_7
theorem ok_f0_7 : AV J_f0 S_f0_7 D_f0_7 :=
 Az fun D_f0_7 h_7 => lk mxk (lbc h_7 rfl (lbc ok_f0_12 rfl (lbc ok_f0_11 rfl lbn))) (sd_f0_7 D_f0_7)
def tt_f0_3 (x : X_f0_3) : TT Tryz.prog R_f0 :=
 (.call con_f1h x.Da fun (y1 : R_f1h) =>
 (.need (!y1.fst.nil) <|
 (.jump S_f0_7 D_f0_7 (X_f0_7.mk x.DS x.Da x.Cd x.DS ((x.DS.n : Nat) : Int) 0 y1.fst.x))))
theorem sd_f0_3 (x : X_f0_3) : (tt_f0_3 x).AH :=
 (TT.sC fun _ => (TT.sN TT.sJ))
def D_f0_3 : AQ X_f0_3 R_f0 := .of tt_f0_3
theorem ok_f0_3 : AV J_f0 S_f0_3 D_f0_3 :=
 lk mxk (lbc ok_f0_12 rfl (lbc ok_f0_11 rfl (lbc ok_f0_7 rfl lbn))) sd_f0_3
def tt_f0 (x : X_f0) : TT Tryz.prog R_f0 :=
 (.call con_f3f PUnit.unit fun (y1 : R_f3f) =>
 (.ite (!y1)
 (.call con_f3f PUnit.unit fun (y2 : R_f3f) =>
 (.ret y2))
 (.call con_f4g x.fst fun (y2 : R_f4g) =>
 (.ite (!y2)
 (.call con_f3f PUnit.unit fun (y3 : R_f3f) =>
 (.ret y3))
 (.ite (BS 60 ((x.snd.fst.n : Nat) : Int))
 (.call con_f3f PUnit.unit fun (y3 : R_f3f) =>
 (.ret y3))
 (.call con_f43 (x.fst, x.snd.fst) fun (y3 : R_f43) =>
 (.ite (BS y3 ((x.snd.fst.n : Nat) : Int))
 (.call con_f3f PUnit.unit fun (y4 : R_f3f) =>
 (.ret y4))
 (.jump S_f0_3 D_f0_3 (X_f0_3.mk x.snd.fst x.fst x.snd.snd)))))))))
theorem sd_f0 (x : X_f0) : (tt_f0 x).AH :=
 (TT.sC fun _ => (TT.sI (TT.sC fun _ => TT.sR) (TT.sC fun _ => (TT.sI (TT.sC fun _ => TT.sR) (TT.sI (TT.sC fun _ => TT.sR) (TT.sC fun _ => (TT.sI (TT.sC fun _ => TT.sR) TT.sJ)))))))
def D_f0 : AQ X_f0 R_f0 := .of tt_f0
def con_f0 : A3 Tryz.prog :=
 BZ 7 J_f0 S_f0 D_f0 3 0 [sh_TPg, hsl_TEv, .any] (lk mxk (lbc ok_f0_12 rfl (lbc ok_f0_11 rfl (lbc ok_f0_7 rfl (lbc ok_f0_3 rfl lbn)))) sd_f0)
end Go.Proofs.YtlhifcnjnmeknaaGreatDoor
end
