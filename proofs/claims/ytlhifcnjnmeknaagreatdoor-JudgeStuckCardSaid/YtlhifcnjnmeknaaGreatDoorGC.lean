/- What functions of the program come to, part C: no statement is proved here. -/
import Derived.Test.YtlhifcnjnmeknaaGreatDoorGB
noncomputable section
namespace Go.Proofs.YtlhifcnjnmeknaaGreatDoor
open Go Go.Vm Go.Proofs
set_option maxRecDepth 100000
abbrev X_f1r : Type := TPg × Int
abbrev R_f1r : Type := Bool
def J_f1r : A8 Tryz.prog :=
 BD Tryz.prog Tryz.f12 43 [(2, 3)] [] [] [] [.any] [] [] R_f1r [] fun y => [V.bool y]
def S_f1r : AM :=
 Ae Tryz.f12 2 0 X_f1r (fun x => [e_TPg x.1, (V.int .i64) x.2]) fun l => (d_TPg (at_ l 0), dI (at_ l 1))
structure X_f1r_3 where
 GU : Int
 H4 : TPg
def S_f1r_3 : AM :=
 Ad Tryz.f12 3 (an [1, 2]) [] [] X_f1r_3 (fun x => [(V.int .i64) x.GU, (C2 e_TPg) x.H4]) fun l => ⟨dI (at_ l 0), (C3 d_TPg) (at_ l 1)⟩
structure X_f1r_5 where
 GU : Int
 H4 : TPg
 n_5 : Int
 N0 : Int
def S_f1r_5 : AM :=
 Ad Tryz.f12 5 (an [1, 2, 5, 6]) [] [] X_f1r_5 (fun x => [(V.int .i64) x.GU, (C2 e_TPg) x.H4, (V.int .i64) x.n_5, (V.int .i64) x.N0]) fun l => ⟨dI (at_ l 0), (C3 d_TPg) (at_ l 1), dI (at_ l 2), dI (at_ l 3)⟩
def tt_f1r_5 (D_f1r_5 : AU X_f1r_5 R_f1r) (x : X_f1r_5) : TT Tryz.prog R_f1r :=
 (.ite (BR x.N0 ((x.H4.AB.n : Nat) : Int))
 (.need (Az x.N0 x.H4.AB.n) <|
 (.ite (BR x.GU (((x.H4.AB.get (Int.toNat x.N0)).n : Nat) : Int))
 (.ret false)
 (.need (Az x.N0 x.H4.AB.n) <|
 (.jump S_f1r_5 D_f1r_5 (X_f1r_5.mk x.GU x.H4 (IntKind.i64.wrap (x.n_5 + (((x.H4.AB.get (Int.toNat x.N0)).n : Nat) : Int))) (IntKind.i64.wrap (x.N0 + 1)))))))
 (.ret (BW x.n_5 x.GU)))
theorem sd_f1r_5 (D_f1r_5 : AU X_f1r_5 R_f1r) (x : X_f1r_5) : (tt_f1r_5 D_f1r_5 x).AH :=
 (TT.sI (TT.sN (TT.sI TT.sR (TT.sN TT.sJ))) TT.sR)
def D_f1r_5 : AU X_f1r_5 R_f1r := AU.loop tt_f1r_5
theorem ok_f1r_5 : AW J_f1r S_f1r_5 D_f1r_5 :=
 A2 fun D_f1r_5 h_5 => lk mxk (lbc h_5 rfl lbn) (sd_f1r_5 D_f1r_5)
def tt_f1r_3 (x : X_f1r_3) : TT Tryz.prog R_f1r :=
 (.jump S_f1r_5 D_f1r_5 (X_f1r_5.mk x.GU x.H4 0 0))
theorem sd_f1r_3 (x : X_f1r_3) : (tt_f1r_3 x).AH :=
 TT.sJ
def D_f1r_3 : AU X_f1r_3 R_f1r := .of tt_f1r_3
theorem ok_f1r_3 : AW J_f1r S_f1r_3 D_f1r_3 :=
 lk mxk (lbc ok_f1r_5 rfl lbn) sd_f1r_3
def tt_f1r (x : X_f1r) : TT Tryz.prog R_f1r :=
 (.ite (BR 10 ((x.fst.AJ.n : Nat) : Int))
 (.ret false)
 (.ite (BR 10 ((x.fst.AB.n : Nat) : Int))
 (.ret false)
 (.jump S_f1r_3 D_f1r_3 (X_f1r_3.mk x.snd x.fst))))
theorem sd_f1r (x : X_f1r) : (tt_f1r x).AH :=
 (TT.sI TT.sR (TT.sI TT.sR TT.sJ))
def D_f1r : AU X_f1r R_f1r := .of tt_f1r
def con_f1r : A3 Tryz.prog :=
 BS 12 J_f1r S_f1r D_f1r 2 0 [sh_TPg, .any] (lk mxk (lbc ok_f1r_5 rfl (lbc ok_f1r_3 rfl lbn)) sd_f1r)
abbrev X_f2b : Type := TPg
abbrev R_f2b : Type := TPg
def J_f2b : A8 Tryz.prog :=
 BD Tryz.prog Tryz.f14 30 [(1, 3), (18, 1)] [] [] [] [sh_TPg] [] [] R_f2b [] fun y => [e_TPg y]
def S_f2b : AM :=
 Ae Tryz.f14 1 0 X_f2b (fun x => [e_TPg x]) fun l => (d_TPg (at_ l 0))
structure X_f2b_3 where
 CV : TPg
 DH : Int
 Ey : TPg
 A0 : TPg
def S_f2b_3 : AM :=
 Ad Tryz.f14 3 (an [1, 2, 3, 4]) [] [(.loc 2 0, sh_TPg), (.loc 3 0, sh_TPg_1)] X_f2b_3 (fun x => [(C2 e_TPg) x.CV, (V.ptr (.loc 2 0) []), (V.ptr (.loc 3 0) []), (V.int .i64) x.DH, e_TPg x.Ey, e_TPg_1 x.A0]) fun l => ⟨(C3 d_TPg) (at_ l 0), dI (at_ l 3), d_TPg (at_ l 4), d_TPg (at_ l 5)⟩
def tt_f2b_3 (D_f2b_3 : AU X_f2b_3 R_f2b) (x : X_f2b_3) : TT Tryz.prog R_f2b :=
 (.ite (BR x.DH ((x.CV.AB.n : Nat) : Int))
 (.need (Az x.DH x.CV.AB.n) <|
 (.need (true && (room ((0 : Nat) + (x.CV.AB.get (Int.toNat x.DH)).n) 48)) <|
 (.need (true && (room (x.A0.AB.n + 1) 24)) <|
 (.jump S_f2b_3 D_f2b_3 (X_f2b_3.mk x.CV (IntKind.i64.wrap (x.DH + 1)) x.Ey (TPg.mk x.A0.AJ (Sl.mk (cond (Nat.beq 1 0) x.A0.AB.nil false) (x.A0.AB.n + 1) (fun i2 => (Sl.mk (cond (Nat.blt i2 x.A0.AB.n) (x.A0.AB.get i2).nil (cond (Nat.beq (x.CV.AB.get (Int.toNat x.DH)).n 0) false false)) (cond (Nat.blt i2 x.A0.AB.n) (x.A0.AB.get i2).n ((0 : Nat) + (x.CV.AB.get (Int.toNat x.DH)).n)) (fun i3 => (TIn.mk (cond (Nat.blt i2 x.A0.AB.n) ((x.A0.AB.get i2).get i3).Op (cond (Nat.blt i3 0) (0 : Int) ((x.CV.AB.get (Int.toNat x.DH)).get (i3 - 0)).Op)) (cond (Nat.blt i2 x.A0.AB.n) ((x.A0.AB.get i2).get i3).A (cond (Nat.blt i3 0) (0 : Int) ((x.CV.AB.get (Int.toNat x.DH)).get (i3 - 0)).A)) (cond (Nat.blt i2 x.A0.AB.n) ((x.A0.AB.get i2).get i3).B (cond (Nat.blt i3 0) (0 : Int) ((x.CV.AB.get (Int.toNat x.DH)).get (i3 - 0)).B)) (cond (Nat.blt i2 x.A0.AB.n) ((x.A0.AB.get i2).get i3).C (cond (Nat.blt i3 0) (0 : Int) ((x.CV.AB.get (Int.toNat x.DH)).get (i3 - 0)).C)) (cond (Nat.blt i2 x.A0.AB.n) ((x.A0.AB.get i2).get i3).D (cond (Nat.blt i3 0) (0 : Int) ((x.CV.AB.get (Int.toNat x.DH)).get (i3 - 0)).D)) (cond (Nat.blt i2 x.A0.AB.n) ((x.A0.AB.get i2).get i3).K (cond (Nat.blt i3 0) (0 : Int) ((x.CV.AB.get (Int.toNat x.DH)).get (i3 - 0)).K)))))))))))))
 (.ret x.A0))
theorem sd_f2b_3 (D_f2b_3 : AU X_f2b_3 R_f2b) (x : X_f2b_3) : (tt_f2b_3 D_f2b_3 x).AH :=
 (TT.sI (TT.sN (TT.sN (TT.sN TT.sJ))) TT.sR)
def D_f2b_3 : AU X_f2b_3 R_f2b := AU.loop tt_f2b_3
theorem ok_f2b_3 : AW J_f2b S_f2b_3 D_f2b_3 :=
 A2 fun D_f2b_3 h_3 => lk mxk (lbc h_3 rfl lbn) (sd_f2b_3 D_f2b_3)
def tt_f2b (x : X_f2b) : TT Tryz.prog R_f2b :=
 (.need (true && (room ((0 : Nat) + x.AJ.n) 24)) <|
 (.jump S_f2b_3 D_f2b_3 (X_f2b_3.mk x 0 (TPg.mk (Sl.mk true 0 (fun _i1 => (TRg.mk 0 0 0))) (Sl.mk true 0 (fun _i1 => (Sl.mk true 0 (fun _i2 => (TIn.mk 0 0 0 0 0 0)))))) (TPg.mk (Sl.mk (cond (Nat.beq x.AJ.n 0) false false) ((0 : Nat) + x.AJ.n) (fun i1 => (TRg.mk (cond (Nat.blt i1 0) (0 : Int) (x.AJ.get (i1 - 0)).Kind) (cond (Nat.blt i1 0) (0 : Int) (x.AJ.get (i1 - 0)).Cf) (cond (Nat.blt i1 0) (0 : Int) (x.AJ.get (i1 - 0)).AQ)))) (Sl.mk true 0 (fun _i1 => (Sl.mk true 0 (fun _i2 => (TIn.mk 0 0 0 0 0 0)))))))))
theorem sd_f2b (x : X_f2b) : (tt_f2b x).AH :=
 (TT.sN TT.sJ)
def D_f2b : AU X_f2b R_f2b := .of tt_f2b
def con_f2b : A3 Tryz.prog :=
 BS 14 J_f2b S_f2b D_f2b 1 0 [sh_TPg] (lk mxk (lbc ok_f2b_3 rfl lbn) sd_f2b)
abbrev X_f48 : Type := TRg
abbrev R_f48 : Type := Bool
def J_f48 : A8 Tryz.prog :=
 BD Tryz.prog Tryz.f115 36 [(1, 3)] [] [] [] [.any] [] [] R_f48 [] fun y => [V.bool y]
def S_f48 : AM :=
 Ae Tryz.f115 1 0 X_f48 (fun x => [e_TRg x]) fun l => (d_TRg (at_ l 0))
def tt_f48 (x : X_f48) : TT Tryz.prog R_f48 :=
 (.ite (BW 1 x.Cf)
 (.ite (BW x.Cf 64)
 (.ite (AX x.Kind 1)
 (.ite (AX x.AQ 1)
 (.ret true)
 (.ite (AX x.Kind 2)
 (.ite (BW 1 x.AQ)
 (.ret (BW x.AQ 8))
 (.ret false))
 (.ret false)))
 (.ite (AX x.Kind 2)
 (.ite (BW 1 x.AQ)
 (.ret (BW x.AQ 8))
 (.ret false))
 (.ret false)))
 (.ret false))
 (.ret false))
theorem sd_f48 (x : X_f48) : (tt_f48 x).AH :=
 (TT.sI (TT.sI (TT.sI (TT.sI TT.sR (TT.sI (TT.sI TT.sR TT.sR) TT.sR)) (TT.sI (TT.sI TT.sR TT.sR) TT.sR)) TT.sR) TT.sR)
def D_f48 : AU X_f48 R_f48 := .of tt_f48
def con_f48 : A3 Tryz.prog :=
 BS 115 J_f48 S_f48 D_f48 1 0 [.any] (lk mxk lbn sd_f48)
abbrev X_f49 : Type := Int
abbrev R_f49 : Type := ByteArray
def J_f49 : A8 Tryz.prog :=
 BD Tryz.prog Tryz.f153 53 [] [] [] [] [.any] [] [] R_f49 [] fun y => [V.str y]
def S_f49 : AM :=
 Ae Tryz.f153 1 0 X_f49 (fun x => [(V.int .i64) x]) fun l => (dI (at_ l 0))
def tt_f49 (x : X_f49) : TT Tryz.prog R_f49 :=
 (.ite (AX x 1)
 (.ret (ByteArray.mk #[114, 48, 48, 48, 110]))
 (.ite (AX x 2)
 (.ret (ByteArray.mk #[114, 114, 48, 48, 48]))
 (.ite (AX x 23)
 (.ret (ByteArray.mk #[114, 114, 48, 48, 48]))
 (.ite (BW 3 x)
 (.ite (BW x 14)
 (.ret (ByteArray.mk #[114, 114, 114, 48, 48]))
 (.ite (AX x 15)
 (.ret (ByteArray.mk #[48, 48, 48, 48, 112]))
 (.ite (AX x 16)
 (.ret (ByteArray.mk #[114, 48, 48, 48, 112]))
 (.ite (AX x 17)
 (.ret (ByteArray.mk #[114, 48, 48, 48, 112]))
 (.ite (AX x 18)
 (.ret (ByteArray.mk #[114, 114, 103, 109, 48]))
 (.ite (AX x 19)
 (.ret (ByteArray.mk #[114, 114, 103, 109, 100]))
 (.ite (AX x 20)
 (.ret (ByteArray.mk #[48, 48, 103, 48, 48]))
 (.ite (AX x 21)
 (.ret (ByteArray.mk #[114, 48, 48, 48, 48]))
 (.ite (AX x 22)
 (.ret (ByteArray.mk #[114, 48, 48, 48, 48]))
 (.ite (AX x 24)
 (.ret (ByteArray.mk #[114, 48, 48, 48, 48]))
 (.ite (AX x 25)
 (.ret (ByteArray.mk #[48, 48, 48, 48, 48]))
 (.ret (ByteArray.mk #[])))))))))))))
 (.ite (AX x 15)
 (.ret (ByteArray.mk #[48, 48, 48, 48, 112]))
 (.ite (AX x 16)
 (.ret (ByteArray.mk #[114, 48, 48, 48, 112]))
 (.ite (AX x 17)
 (.ret (ByteArray.mk #[114, 48, 48, 48, 112]))
 (.ite (AX x 18)
 (.ret (ByteArray.mk #[114, 114, 103, 109, 48]))
 (.ite (AX x 19)
 (.ret (ByteArray.mk #[114, 114, 103, 109, 100]))
 (.ite (AX x 20)
 (.ret (ByteArray.mk #[48, 48, 103, 48, 48]))
 (.ite (AX x 21)
 (.ret (ByteArray.mk #[114, 48, 48, 48, 48]))
 (.ite (AX x 22)
 (.ret (ByteArray.mk #[114, 48, 48, 48, 48]))
 (.ite (AX x 24)
 (.ret (ByteArray.mk #[114, 48, 48, 48, 48]))
 (.ite (AX x 25)
 (.ret (ByteArray.mk #[48, 48, 48, 48, 48]))
 (.ret (ByteArray.mk #[]))))))))))))))))
theorem sd_f49 (x : X_f49) : (tt_f49 x).AH :=
 (TT.sI TT.sR (TT.sI TT.sR (TT.sI TT.sR (TT.sI (TT.sI TT.sR (TT.sI TT.sR (TT.sI TT.sR (TT.sI TT.sR (TT.sI TT.sR (TT.sI TT.sR (TT.sI TT.sR (TT.sI TT.sR (TT.sI TT.sR (TT.sI TT.sR (TT.sI TT.sR TT.sR))))))))))) (TT.sI TT.sR (TT.sI TT.sR (TT.sI TT.sR (TT.sI TT.sR (TT.sI TT.sR (TT.sI TT.sR (TT.sI TT.sR (TT.sI TT.sR (TT.sI TT.sR (TT.sI TT.sR TT.sR))))))))))))))
def D_f49 : AU X_f49 R_f49 := .of tt_f49
def con_f49 : A3 Tryz.prog :=
 BS 153 J_f49 S_f49 D_f49 1 0 [.any] (lk mxk lbn sd_f49)
abbrev X_f44 : Type := Int
abbrev R_f44 : Type := Int
def J_f44 : A8 Tryz.prog :=
 BD Tryz.prog Tryz.f154 14 [] [] [] [] [.any] [] [] R_f44 [] fun y => [(V.int .u64) y]
def S_f44 : AM :=
 Ae Tryz.f154 1 0 X_f44 (fun x => [(V.int .u8) x]) fun l => (dI (at_ l 0))
def tt_f44 (x : X_f44) : TT Tryz.prog R_f44 :=
 (.ite (AX x 114)
 (.ret 7)
 (.ite (AX x 103)
 (.ret 7)
 (.ite (AX x 100)
 (.ret 7)
 (.ite (AX x 109)
 (.ret 2)
 (.ite (AX x 112)
 (.ret 256)
 (.ite (AX x 110)
 (.ret 18446744073709551615)
 (.ret 0)))))))
theorem sd_f44 (x : X_f44) : (tt_f44 x).AH :=
 (TT.sI TT.sR (TT.sI TT.sR (TT.sI TT.sR (TT.sI TT.sR (TT.sI TT.sR (TT.sI TT.sR TT.sR))))))
def D_f44 : AU X_f44 R_f44 := .of tt_f44
def con_f44 : A3 Tryz.prog :=
 BS 154 J_f44 S_f44 D_f44 1 0 [.any] (lk mxk lbn sd_f44)
abbrev X_fk : Type := TIn
abbrev R_fk : Type := Bool
def J_fk : A8 Tryz.prog :=
 BD Tryz.prog Tryz.f116 49 [(1, 3)] [] [] [] [.any] [] [con_f49, con_f44] R_fk [] fun y => [V.bool y]
def S_fk : AM :=
 Ae Tryz.f116 1 0 X_fk (fun x => [e_TIn x]) fun l => (d_TIn (at_ l 0))
structure X_fk_4 where
 FM : TIn
 MH : ByteArray
def S_fk_4 : AM :=
 Ad Tryz.f116 4 (an [1, 3]) [] [] X_fk_4 (fun x => [(C2 e_TIn) x.FM, V.str x.MH]) fun l => ⟨(C3 d_TIn) (at_ l 0), dS (at_ l 1)⟩
structure X_fk_6 where
 MH : ByteArray
 Sv : (Sl Int)
 Qh : Int
def S_fk_6 : AM :=
 Ad Tryz.f116 6 [(3, .any), (4, EX), (5, .any)] [] [] X_fk_6 (fun x => [V.str x.MH, ED x.Sv, (V.int .i64) x.Qh]) fun l => ⟨dS (at_ l 0), F0 (at_ l 1), dI (at_ l 2)⟩
structure X_fk_7 where
 MH : ByteArray
 Sv : (Sl Int)
 Qh : Int
def S_fk_7 : AM :=
 Ad Tryz.f116 7 [(3, .any), (4, EX), (5, .any)] [] [] X_fk_7 (fun x => [V.str x.MH, ED x.Sv, (V.int .i64) x.Qh]) fun l => ⟨dS (at_ l 0), F0 (at_ l 1), dI (at_ l 2)⟩
def tt_fk_7 (D_fk_6 : AU X_fk_6 R_fk) (x : X_fk_7) : TT Tryz.prog R_fk :=
 (.jump S_fk_6 D_fk_6 (X_fk_6.mk x.MH x.Sv (IntKind.i64.wrap (x.Qh + 1))))
theorem sd_fk_7 (D_fk_6 : AU X_fk_6 R_fk) (x : X_fk_7) : (tt_fk_7 D_fk_6 x).AH :=
 TT.sJ
def D_fk_7 (D_fk_6 : AU X_fk_6 R_fk) : AU X_fk_7 R_fk := .of (tt_fk_7 D_fk_6)
theorem ok_fk_7 (D_fk_6 : AU X_fk_6 R_fk) (h_6 : AW J_fk S_fk_6 D_fk_6) : AW J_fk S_fk_7 (D_fk_7 D_fk_6) :=
 lk mxk (lbc h_6 rfl lbn) (sd_fk_7 D_fk_6)
def tt_fk_6 (D_fk_6 : AU X_fk_6 R_fk) (x : X_fk_6) : TT Tryz.prog R_fk :=
 (.ite (BR x.Qh 4)
 (.need (Az x.Qh x.Sv.n) <|
 (.ite (BR (x.Sv.get (Int.toNat x.Qh)) 0)
 (.ret false)
 (.need (Az x.Qh x.Sv.n) <|
 (.need (Az x.Qh (ByteArray.size x.MH)) <|
 (.call con_f44 (bt x.MH (Int.toNat x.Qh)) fun (y2 : R_f44) =>
 (.ite (BR y2 (IntKind.u64.wrap (x.Sv.get (Int.toNat x.Qh))))
 (.ret false)
 (.jump S_fk_7 (D_fk_7 D_fk_6) (X_fk_7.mk x.MH x.Sv x.Qh))))))))
 (.ret true))
theorem sd_fk_6 (D_fk_6 : AU X_fk_6 R_fk) (x : X_fk_6) : (tt_fk_6 D_fk_6 x).AH :=
 (TT.sI (TT.sN (TT.sI TT.sR (TT.sN (TT.sN (TT.sC fun _ => (TT.sI TT.sR TT.sJ)))))) TT.sR)
def D_fk_6 : AU X_fk_6 R_fk := AU.loop tt_fk_6
theorem ok_fk_6 : AW J_fk S_fk_6 D_fk_6 :=
 A2 fun D_fk_6 h_6 => lk mxk (lbc h_6 rfl (lbc (ok_fk_7 D_fk_6 h_6) rfl lbn)) (sd_fk_6 D_fk_6)
def tt_fk_4 (x : X_fk_4) : TT Tryz.prog R_fk :=
 (.jump S_fk_6 D_fk_6 (X_fk_6.mk x.MH (Sl.mk false 4 (fun i1 => (cond (Nat.beq i1 0) x.FM.A (cond (Nat.beq i1 1) x.FM.B (cond (Nat.beq i1 2) x.FM.C x.FM.D))))) 0))
theorem sd_fk_4 (x : X_fk_4) : (tt_fk_4 x).AH :=
 TT.sJ
def D_fk_4 : AU X_fk_4 R_fk := .of tt_fk_4
theorem ok_fk_4 : AW J_fk S_fk_4 D_fk_4 :=
 lk mxk (lbc ok_fk_6 rfl lbn) sd_fk_4
def tt_fk (x : X_fk) : TT Tryz.prog R_fk :=
 (.call con_f49 x.Op fun (y1 : R_f49) =>
 (.ite (seq y1 (ByteArray.mk #[]))
 (.ret false)
 (.need (Az 4 (ByteArray.size y1)) <|
 (.call con_f44 (bt y1 (Int.toNat 4)) fun (y2 : R_f44) =>
 (.ite (BR y2 x.K)
 (.ret false)
 (.jump S_fk_4 D_fk_4 (X_fk_4.mk x y1)))))))
theorem sd_fk (x : X_fk) : (tt_fk x).AH :=
 (TT.sC fun _ => (TT.sI TT.sR (TT.sN (TT.sC fun _ => (TT.sI TT.sR TT.sJ)))))
def D_fk : AU X_fk R_fk := .of tt_fk
def con_fk : A3 Tryz.prog :=
 BS 116 J_fk S_fk D_fk 1 0 [.any] (lk mxk (lbc ok_fk_6 rfl (lbc ok_fk_4 rfl lbn)) sd_fk)
abbrev X_f27 : Type := TPg × TIn × Int
abbrev R_f27 : Type := Int
def J_f27 : A8 Tryz.prog :=
 BD Tryz.prog Tryz.f117 56 [(3, 3), (4, 3)] [] [] [] [.any] [] [] R_f27 [] fun y => [(V.int .i64) y]
def S_f27 : AM :=
 Ae Tryz.f117 3 0 X_f27 (fun x => [e_TPg x.1, e_TIn x.2.1, (V.int .i64) x.2.2]) fun l => (d_TPg (at_ l 0), d_TIn (at_ l 1), dI (at_ l 2))
structure X_f27_3 where
 H3 : TPg
 DH : TIn
def S_f27_3 : AM :=
 Ad Tryz.f117 3 (an [3, 4]) [] [] X_f27_3 (fun x => [(C2 e_TPg) x.H3, (C2 e_TIn) x.DH]) fun l => ⟨(C3 d_TPg) (at_ l 0), (C3 d_TIn) (at_ l 1)⟩
def tt_f27_3 (x : X_f27_3) : TT Tryz.prog R_f27 :=
 (.ite (BW 18 x.DH.Op)
 (.ite (BW x.DH.Op 20)
 (.ite (BW ((x.H3.AJ.n : Nat) : Int) x.DH.C)
 (.ret 7)
 (.ite (AX x.DH.Op 19)
 (.need (Az x.DH.C x.H3.AJ.n) <|
 (.ite (BW (IntKind.u64.wrap (x.H3.AJ.get (Int.toNat x.DH.C)).AQ) x.DH.K)
 (.ret 7)
 (.ret 0)))
 (.ret 0)))
 (.ite (AX x.DH.Op 19)
 (.need (Az x.DH.C x.H3.AJ.n) <|
 (.ite (BW (IntKind.u64.wrap (x.H3.AJ.get (Int.toNat x.DH.C)).AQ) x.DH.K)
 (.ret 7)
 (.ret 0)))
 (.ret 0)))
 (.ite (AX x.DH.Op 19)
 (.need (Az x.DH.C x.H3.AJ.n) <|
 (.ite (BW (IntKind.u64.wrap (x.H3.AJ.get (Int.toNat x.DH.C)).AQ) x.DH.K)
 (.ret 7)
 (.ret 0)))
 (.ret 0)))
theorem sd_f27_3 (x : X_f27_3) : (tt_f27_3 x).AH :=
 (TT.sI (TT.sI (TT.sI TT.sR (TT.sI (TT.sN (TT.sI TT.sR TT.sR)) TT.sR)) (TT.sI (TT.sN (TT.sI TT.sR TT.sR)) TT.sR)) (TT.sI (TT.sN (TT.sI TT.sR TT.sR)) TT.sR))
def D_f27_3 : AU X_f27_3 R_f27 := .of tt_f27_3
theorem ok_f27_3 : AW J_f27 S_f27_3 D_f27_3 :=
 lk mxk lbn sd_f27_3
def tt_f27 (x : X_f27) : TT Tryz.prog R_f27 :=
 (.ite (BW 15 x.snd.fst.Op)
 (.ite (BW x.snd.fst.Op 17)
 (.ite (BR (IntKind.u64.wrap x.snd.snd) x.snd.fst.K)
 (.ret 5)
 (.jump S_f27_3 D_f27_3 (X_f27_3.mk x.fst x.snd.fst)))
 (.jump S_f27_3 D_f27_3 (X_f27_3.mk x.fst x.snd.fst)))
 (.jump S_f27_3 D_f27_3 (X_f27_3.mk x.fst x.snd.fst)))
theorem sd_f27 (x : X_f27) : (tt_f27 x).AH :=
 (TT.sI (TT.sI (TT.sI TT.sR TT.sJ) TT.sJ) TT.sJ)
def D_f27 : AU X_f27 R_f27 := .of tt_f27
def con_f27 : A3 Tryz.prog :=
 BS 117 J_f27 S_f27 D_f27 3 0 [sh_TPg, .any, .any] (lk mxk (lbc ok_f27_3 rfl lbn) sd_f27)
abbrev X_f2 : Type := TPg
abbrev R_f2 : Type := Int × Int × Int
def J_f2 : A8 Tryz.prog :=
 BD Tryz.prog Tryz.f71 81 [(1, 3)] [] [] [] [.any, .any, .any] [] [con_fk, con_f27, con_f48] R_f2 [] fun y => [V.B9 (V.cons ((V.int .i64) y.1) (V.cons ((V.int .i64) y.2.1) (V.cons ((V.int .i64) y.2.2) (V.unit))))]
def S_f2 : AM :=
 Ae Tryz.f71 1 0 X_f2 (fun x => [e_TPg x]) fun l => (d_TPg (at_ l 0))
structure X_f2_3 where
 CV : TPg
def S_f2_3 : AM :=
 Ad Tryz.f71 3 [(1, .any)] [] [] X_f2_3 (fun x => [(C2 e_TPg) x.CV]) fun l => ⟨(C3 d_TPg) (at_ l 0)⟩
structure X_f2_4 where
 CV : TPg
 N1 : Int
def S_f2_4 : AM :=
 Ad Tryz.f71 4 (an [1, 5]) [] [] X_f2_4 (fun x => [(C2 e_TPg) x.CV, (V.int .i64) x.N1]) fun l => ⟨(C3 d_TPg) (at_ l 0), dI (at_ l 1)⟩
structure X_f2_8 where
 CV : TPg
def S_f2_8 : AM :=
 Ad Tryz.f71 8 [(1, .any)] [] [] X_f2_8 (fun x => [(C2 e_TPg) x.CV]) fun l => ⟨(C3 d_TPg) (at_ l 0)⟩
structure X_f2_9 where
 CV : TPg
 Kl : Int
def S_f2_9 : AM :=
 Ad Tryz.f71 9 (an [1, 6]) [] [] X_f2_9 (fun x => [(C2 e_TPg) x.CV, (V.int .i64) x.Kl]) fun l => ⟨(C3 d_TPg) (at_ l 0), dI (at_ l 1)⟩
structure X_f2_10 where
 CV : TPg
 Kl : Int
def S_f2_10 : AM :=
 Ad Tryz.f71 10 (an [1, 6]) [] [] X_f2_10 (fun x => [(C2 e_TPg) x.CV, (V.int .i64) x.Kl]) fun l => ⟨(C3 d_TPg) (at_ l 0), dI (at_ l 1)⟩
structure X_f2_15 where
 CV : TPg
 Kl : Int
 OZ : (Sl TIn)
 Oa : Int
def S_f2_15 : AM :=
 Ad Tryz.f71 15 [(1, .any), (6, .any), (7, hsl_TIn), (8, .any)] [] [] X_f2_15 (fun x => [(C2 e_TPg) x.CV, (V.int .i64) x.Kl, esl_TIn x.OZ, (V.int .i64) x.Oa]) fun l => ⟨(C3 d_TPg) (at_ l 0), dI (at_ l 1), dsl_TIn (at_ l 2), dI (at_ l 3)⟩
structure X_f2_16 where
 CV : TPg
 Kl : Int
 OZ : (Sl TIn)
 Oa : Int
def S_f2_16 : AM :=
 Ad Tryz.f71 16 [(1, .any), (6, .any), (7, hsl_TIn), (8, .any)] [] [] X_f2_16 (fun x => [(C2 e_TPg) x.CV, (V.int .i64) x.Kl, esl_TIn x.OZ, (V.int .i64) x.Oa]) fun l => ⟨(C3 d_TPg) (at_ l 0), dI (at_ l 1), dsl_TIn (at_ l 2), dI (at_ l 3)⟩
structure X_f2_20 where
 CV : TPg
 Kl : Int
 OZ : (Sl TIn)
 Oa : Int
 e_9 : Int
def S_f2_20 : AM :=
 Ad Tryz.f71 20 [(1, .any), (6, .any), (7, hsl_TIn), (8, .any), (9, .any)] [] [] X_f2_20 (fun x => [(C2 e_TPg) x.CV, (V.int .i64) x.Kl, esl_TIn x.OZ, (V.int .i64) x.Oa, (V.int .i64) x.e_9]) fun l => ⟨(C3 d_TPg) (at_ l 0), dI (at_ l 1), dsl_TIn (at_ l 2), dI (at_ l 3), dI (at_ l 4)⟩
def tt_f2_10 (D_f2_9 : AU X_f2_9 R_f2) (x : X_f2_10) : TT Tryz.prog R_f2 :=
 (.jump S_f2_9 D_f2_9 (X_f2_9.mk x.CV (IntKind.i64.wrap (x.Kl + 1))))
theorem sd_f2_10 (D_f2_9 : AU X_f2_9 R_f2) (x : X_f2_10) : (tt_f2_10 D_f2_9 x).AH :=
 TT.sJ
def D_f2_10 (D_f2_9 : AU X_f2_9 R_f2) : AU X_f2_10 R_f2 := .of (tt_f2_10 D_f2_9)
theorem ok_f2_10 (D_f2_9 : AU X_f2_9 R_f2) (h_9 : AW J_f2 S_f2_9 D_f2_9) : AW J_f2 S_f2_10 (D_f2_10 D_f2_9) :=
 lk mxk (lbc h_9 rfl lbn) (sd_f2_10 D_f2_9)
def tt_f2_16 (_D_f2_9 : AU X_f2_9 R_f2) (D_f2_15 : AU X_f2_15 R_f2) (x : X_f2_16) : TT Tryz.prog R_f2 :=
 (.jump S_f2_15 D_f2_15 (X_f2_15.mk x.CV x.Kl x.OZ (IntKind.i64.wrap (x.Oa + 1))))
theorem sd_f2_16 (D_f2_9 : AU X_f2_9 R_f2) (D_f2_15 : AU X_f2_15 R_f2) (x : X_f2_16) : (tt_f2_16 D_f2_9 D_f2_15 x).AH :=
 TT.sJ
def D_f2_16 (D_f2_9 : AU X_f2_9 R_f2) (D_f2_15 : AU X_f2_15 R_f2) : AU X_f2_16 R_f2 := .of (tt_f2_16 D_f2_9 D_f2_15)
theorem ok_f2_16 (D_f2_9 : AU X_f2_9 R_f2) (D_f2_15 : AU X_f2_15 R_f2) (h_9 : AW J_f2 S_f2_9 D_f2_9) (h_15 : AW J_f2 S_f2_15 D_f2_15) : AW J_f2 S_f2_16 (D_f2_16 D_f2_9 D_f2_15) :=
 lk mxk (lbc h_9 rfl (lbc h_15 rfl (lbc (ok_f2_10 D_f2_9 h_9) rfl lbn))) (sd_f2_16 D_f2_9 D_f2_15)
def tt_f2_20 (D_f2_9 : AU X_f2_9 R_f2) (D_f2_15 : AU X_f2_15 R_f2) (x : X_f2_20) : TT Tryz.prog R_f2 :=
 (.ite (!(AX x.e_9 0))
 (.ret (x.Kl, (x.Oa, x.e_9)))
 (.jump S_f2_16 (D_f2_16 D_f2_9 D_f2_15) (X_f2_16.mk x.CV x.Kl x.OZ x.Oa)))
theorem sd_f2_20 (D_f2_9 : AU X_f2_9 R_f2) (D_f2_15 : AU X_f2_15 R_f2) (x : X_f2_20) : (tt_f2_20 D_f2_9 D_f2_15 x).AH :=
 (TT.sI TT.sR TT.sJ)
def D_f2_20 (D_f2_9 : AU X_f2_9 R_f2) (D_f2_15 : AU X_f2_15 R_f2) : AU X_f2_20 R_f2 := .of (tt_f2_20 D_f2_9 D_f2_15)
theorem ok_f2_20 (D_f2_9 : AU X_f2_9 R_f2) (D_f2_15 : AU X_f2_15 R_f2) (h_9 : AW J_f2 S_f2_9 D_f2_9) (h_15 : AW J_f2 S_f2_15 D_f2_15) : AW J_f2 S_f2_20 (D_f2_20 D_f2_9 D_f2_15) :=
 lk mxk (lbc h_9 rfl (lbc h_15 rfl (lbc (ok_f2_10 D_f2_9 h_9) rfl (lbc (ok_f2_16 D_f2_9 D_f2_15 h_9 h_15) rfl lbn)))) (sd_f2_20 D_f2_9 D_f2_15)
def tt_f2_15 (D_f2_9 : AU X_f2_9 R_f2) (D_f2_15 : AU X_f2_15 R_f2) (x : X_f2_15) : TT Tryz.prog R_f2 :=
 (.ite (BR x.Oa ((x.OZ.n : Nat) : Int))
 (.need (Az x.Oa x.OZ.n) <|
 (.call con_fk (x.OZ.get (Int.toNat x.Oa)) fun (y3 : R_fk) =>
 (.ite y3
 (.need (Az x.Oa x.OZ.n) <|
 (.call con_f27 (x.CV, ((x.OZ.get (Int.toNat x.Oa)), ((x.OZ.n : Nat) : Int))) fun (y4 : R_f27) =>
 (.jump S_f2_20 (D_f2_20 D_f2_9 D_f2_15) (X_f2_20.mk x.CV x.Kl x.OZ x.Oa y4))))
 (.jump S_f2_20 (D_f2_20 D_f2_9 D_f2_15) (X_f2_20.mk x.CV x.Kl x.OZ x.Oa 6)))))
 (.jump S_f2_10 (D_f2_10 D_f2_9) (X_f2_10.mk x.CV x.Kl)))
theorem sd_f2_15 (D_f2_9 : AU X_f2_9 R_f2) (D_f2_15 : AU X_f2_15 R_f2) (x : X_f2_15) : (tt_f2_15 D_f2_9 D_f2_15 x).AH :=
 (TT.sI (TT.sN (TT.sC fun _ => (TT.sI (TT.sN (TT.sC fun _ => TT.sJ)) TT.sJ))) TT.sJ)
def D_f2_15 (D_f2_9 : AU X_f2_9 R_f2) : AU X_f2_15 R_f2 := AU.loop (tt_f2_15 D_f2_9)
theorem ok_f2_15 (D_f2_9 : AU X_f2_9 R_f2) (h_9 : AW J_f2 S_f2_9 D_f2_9) : AW J_f2 S_f2_15 (D_f2_15 D_f2_9) :=
 A2 fun D_f2_15 h_15 => lk mxk (lbc h_9 rfl (lbc h_15 rfl (lbc (ok_f2_10 D_f2_9 h_9) rfl (lbc (ok_f2_16 D_f2_9 D_f2_15 h_9 h_15) rfl (lbc (ok_f2_20 D_f2_9 D_f2_15 h_9 h_15) rfl lbn))))) (sd_f2_15 D_f2_9 D_f2_15)
def tt_f2_9 (D_f2_9 : AU X_f2_9 R_f2) (x : X_f2_9) : TT Tryz.prog R_f2 :=
 (.ite (BR x.Kl ((x.CV.AB.n : Nat) : Int))
 (.need (Az x.Kl x.CV.AB.n) <|
 (.ite (BR 256 (((x.CV.AB.get (Int.toNat x.Kl)).n : Nat) : Int))
 (.ret (x.Kl, (256, 4)))
 (.jump S_f2_15 (D_f2_15 D_f2_9) (X_f2_15.mk x.CV x.Kl (x.CV.AB.get (Int.toNat x.Kl)) 0))))
 (.ret (0, (0, 0))))
theorem sd_f2_9 (D_f2_9 : AU X_f2_9 R_f2) (x : X_f2_9) : (tt_f2_9 D_f2_9 x).AH :=
 (TT.sI (TT.sN (TT.sI TT.sR TT.sJ)) TT.sR)
def D_f2_9 : AU X_f2_9 R_f2 := AU.loop tt_f2_9
theorem ok_f2_9 : AW J_f2 S_f2_9 D_f2_9 :=
 A2 fun D_f2_9 h_9 => lk mxk (lbc h_9 rfl (lbc (ok_f2_10 D_f2_9 h_9) rfl (lbc (ok_f2_15 D_f2_9 h_9) rfl lbn))) (sd_f2_9 D_f2_9)
def tt_f2_8 (x : X_f2_8) : TT Tryz.prog R_f2 :=
 (.jump S_f2_9 D_f2_9 (X_f2_9.mk x.CV 0))
theorem sd_f2_8 (x : X_f2_8) : (tt_f2_8 x).AH :=
 TT.sJ
def D_f2_8 : AU X_f2_8 R_f2 := .of tt_f2_8
theorem ok_f2_8 : AW J_f2 S_f2_8 D_f2_8 :=
 lk mxk (lbc ok_f2_9 rfl lbn) sd_f2_8
def tt_f2_4 (D_f2_4 : AU X_f2_4 R_f2) (x : X_f2_4) : TT Tryz.prog R_f2 :=
 (.ite (BR x.N1 ((x.CV.AJ.n : Nat) : Int))
 (.need (Az x.N1 x.CV.AJ.n) <|
 (.call con_f48 (x.CV.AJ.get (Int.toNat x.N1)) fun (y2 : R_f48) =>
 (.ite (!y2)
 (.ret ((-(1 : Int)), (x.N1, 7)))
 (.jump S_f2_4 D_f2_4 (X_f2_4.mk x.CV (IntKind.i64.wrap (x.N1 + 1)))))))
 (.jump S_f2_8 D_f2_8 (X_f2_8.mk x.CV)))
theorem sd_f2_4 (D_f2_4 : AU X_f2_4 R_f2) (x : X_f2_4) : (tt_f2_4 D_f2_4 x).AH :=
 (TT.sI (TT.sN (TT.sC fun _ => (TT.sI TT.sR TT.sJ))) TT.sJ)
def D_f2_4 : AU X_f2_4 R_f2 := AU.loop tt_f2_4
theorem ok_f2_4 : AW J_f2 S_f2_4 D_f2_4 :=
 A2 fun D_f2_4 h_4 => lk mxk (lbc h_4 rfl (lbc ok_f2_9 rfl (lbc ok_f2_8 rfl lbn))) (sd_f2_4 D_f2_4)
def tt_f2_3 (x : X_f2_3) : TT Tryz.prog R_f2 :=
 (.jump S_f2_4 D_f2_4 (X_f2_4.mk x.CV 0))
theorem sd_f2_3 (x : X_f2_3) : (tt_f2_3 x).AH :=
 TT.sJ
def D_f2_3 : AU X_f2_3 R_f2 := .of tt_f2_3
theorem ok_f2_3 : AW J_f2 S_f2_3 D_f2_3 :=
 lk mxk (lbc ok_f2_9 rfl (lbc ok_f2_8 rfl (lbc ok_f2_4 rfl lbn))) sd_f2_3
def tt_f2 (x : X_f2) : TT Tryz.prog R_f2 :=
 (.ite (AX ((x.AB.n : Nat) : Int) 0)
 (.ret (0, (0, 1)))
 (.ite (BR 8 ((x.AB.n : Nat) : Int))
 (.ret (0, (0, 1)))
 (.ite (BR 8 ((x.AJ.n : Nat) : Int))
 (.ret (0, (0, 1)))
 (.jump S_f2_3 D_f2_3 (X_f2_3.mk x)))))
theorem sd_f2 (x : X_f2) : (tt_f2 x).AH :=
 (TT.sI TT.sR (TT.sI TT.sR (TT.sI TT.sR TT.sJ)))
def D_f2 : AU X_f2 R_f2 := .of tt_f2
def con_f2 : A3 Tryz.prog :=
 BS 71 J_f2 S_f2 D_f2 1 0 [sh_TPg] (lk mxk (lbc ok_f2_9 rfl (lbc ok_f2_8 rfl (lbc ok_f2_4 rfl (lbc ok_f2_3 rfl lbn)))) sd_f2)
abbrev X_f41 : Type := TPg
abbrev R_f41 : Type := Bool
def J_f41 : A8 Tryz.prog :=
 BD Tryz.prog Tryz.f38 14 [(1, 3), (6, 1)] [] [] [] [.any] [] [con_f2] R_f41 [] fun y => [V.bool y]
def S_f41 : AM :=
 Ae Tryz.f38 1 0 X_f41 (fun x => [e_TPg x]) fun l => (d_TPg (at_ l 0))
def tt_f41 (x : X_f41) : TT Tryz.prog R_f41 :=
 (.call con_f2 x fun (y1 : R_f2) =>
 (.ret (AX y1.snd.snd 0)))
theorem sd_f41 (x : X_f41) : (tt_f41 x).AH :=
 (TT.sC fun _ => TT.sR)
def D_f41 : AU X_f41 R_f41 := .of tt_f41
def con_f41 : A3 Tryz.prog :=
 BS 38 J_f41 S_f41 D_f41 1 0 [sh_TPg] (lk mxk lbn sd_f41)
abbrev X_f42 : Type := TPg
abbrev R_f42 : Type := Bool
def J_f42 : A8 Tryz.prog :=
 BD Tryz.prog Tryz.f15 5 [(1, 3)] [] [] [] [.any] [] [con_f41] R_f42 [] fun y => [V.bool y]
def S_f42 : AM :=
 Ae Tryz.f15 1 0 X_f42 (fun x => [e_TPg x]) fun l => (d_TPg (at_ l 0))
def tt_f42 (x : X_f42) : TT Tryz.prog R_f42 :=
 (.call con_f41 x fun (y1 : R_f41) =>
 (.ret y1))
theorem sd_f42 (x : X_f42) : (tt_f42 x).AH :=
 (TT.sC fun _ => TT.sR)
def D_f42 : AU X_f42 R_f42 := .of tt_f42
def con_f42 : A3 Tryz.prog :=
 BS 15 J_f42 S_f42 D_f42 1 0 [sh_TPg] (lk mxk lbn sd_f42)
structure TR2 where
 L : (Sl TSo)
 AQ : Int
def d_TR2 (v : V) : TR2 :=
 ⟨dsl_TSo (fd v 0), dI (fd v 1)⟩
def e_TR2 (x : TR2) : V :=
 V.cons (esl_TSo x.L) (V.cons ((V.int .i64) x.AQ) (V.unit))
theorem nu_e_TR2 (x : TR2) : (e_TR2 x).CU := ⟨trivial, trivial, trivial⟩
def sh_TR2 : Sh := (.cons hsl_TSo .any)
abbrev DslA_TSo : Type := (Sl TSo)
def eslA_TSo : DslA_TSo → V := (Kn (some 206) 3 e_TSo)
def dslA_TSo : V → DslA_TSo := (K5 d_TSo)
def hslA_TSo : Sh := (.sl (some 206) 3 (e_TSo (d_TSo .undef)))
def e_TR2_0 (x : TR2) : V :=
 V.cons (eslA_TSo x.L) (V.cons ((V.int .i64) x.AQ) (V.unit))
theorem nu_e_TR2_0 (x : TR2) : (e_TR2_0 x).CU := ⟨trivial, trivial, trivial⟩
def sh_TR2_0 : Sh := (.cons hslA_TSo .any)
abbrev X_f2k : Type := Int × Int
abbrev R_f2k : Type := TR2
def J_f2k : A8 Tryz.prog :=
 BD Tryz.prog Tryz.f118 24 [(15, 1)] [] [] [] [sh_TR2] [] [] R_f2k [] fun y => [e_TR2 y]
def S_f2k : AM :=
 Ae Tryz.f118 2 0 X_f2k (fun x => [(V.int .i64) x.1, (V.int .i64) x.2]) fun l => (dI (at_ l 0), dI (at_ l 1))
structure X_f2k_3 where
 EF : Int
 N0 : Int
 Bq : TR2
 A7 : TR2
def S_f2k_3 : AM :=
 Ad Tryz.f118 3 (an [0, 4, 5, 6]) [] [(.loc 4 0, sh_TR2), (.loc 5 0, sh_TR2_0)] X_f2k_3 (fun x => [(V.int .i64) x.EF, (V.ptr (.loc 4 0) []), (V.ptr (.loc 5 0) []), (V.int .i64) x.N0, e_TR2 x.Bq, e_TR2_0 x.A7]) fun l => ⟨dI (at_ l 0), dI (at_ l 3), d_TR2 (at_ l 4), d_TR2 (at_ l 5)⟩
def tt_f2k_3 (D_f2k_3 : AU X_f2k_3 R_f2k) (x : X_f2k_3) : TT Tryz.prog R_f2k :=
 (.ite (BR x.N0 x.EF)
 (.need (true && (room (x.A7.L.n + 1) 24)) <|
 (.jump S_f2k_3 D_f2k_3 (X_f2k_3.mk x.EF (IntKind.i64.wrap (x.N0 + 1)) x.Bq (TR2.mk (Sl.mk (cond (Nat.beq 1 0) x.A7.L.nil false) (x.A7.L.n + 1) (fun i2 => (TSo.mk (cond (Nat.blt i2 x.A7.L.n) (x.A7.L.get i2).AO (IntKind.u64.wrap ((2 : Int) * (IntKind.u64.wrap x.N0)))) (cond (Nat.blt i2 x.A7.L.n) (x.A7.L.get i2).Value (0 : Int)) (cond (Nat.blt i2 x.A7.L.n) (x.A7.L.get i2).Left (0 : Int))))) x.A7.AQ))))
 (.ret x.A7))
theorem sd_f2k_3 (D_f2k_3 : AU X_f2k_3 R_f2k) (x : X_f2k_3) : (tt_f2k_3 D_f2k_3 x).AH :=
 (TT.sI (TT.sN TT.sJ) TT.sR)
def D_f2k_3 : AU X_f2k_3 R_f2k := AU.loop tt_f2k_3
theorem ok_f2k_3 : AW J_f2k S_f2k_3 D_f2k_3 :=
 A2 fun D_f2k_3 h_3 => lk mxk (lbc h_3 rfl lbn) (sd_f2k_3 D_f2k_3)
def tt_f2k (x : X_f2k) : TT Tryz.prog R_f2k :=
 (.jump S_f2k_3 D_f2k_3 (X_f2k_3.mk x.fst 0 (TR2.mk (Sl.mk true 0 (fun _i1 => (TSo.mk 0 0 0))) 0) (TR2.mk (Sl.mk true 0 (fun _i1 => (TSo.mk 0 0 0))) x.snd)))
theorem sd_f2k (x : X_f2k) : (tt_f2k x).AH :=
 TT.sJ
def D_f2k : AU X_f2k R_f2k := .of tt_f2k
def con_f2k : A3 Tryz.prog :=
 BS 118 J_f2k S_f2k D_f2k 2 0 [.any, .any] (lk mxk (lbc ok_f2k_3 rfl lbn) sd_f2k)
structure TR3 where
 Cf : Int
 Au : Int
 AY : (Sl Int)
 Aw : Bool
 S : TR2
def d_TR3 (v : V) : TR3 :=
 ⟨dI (fd v 0), dI (fd v 1), E5 (fd v 2), dB (fd v 3), d_TR2 (fd v 4)⟩
def e_TR3 (x : TR3) : V :=
 V.cons ((V.int .u64) x.Cf) (V.cons ((V.int .u64) x.Au) (V.cons (EC x.AY) (V.cons (V.bool x.Aw) (V.cons (e_TR2 x.S) (V.unit)))))
theorem nu_e_TR3 (x : TR3) : (e_TR3 x).CU := ⟨trivial, trivial, trivial, trivial, (nu_e_TR2 : ∀ y, (e_TR2 y).CU) x.S, trivial⟩
def sh_TR3 : Sh := (.cons .any (.cons .any (.cons EW (.cons .any (.cons sh_TR2 .any)))))
abbrev X_f4c : Type := TRg
abbrev R_f4c : Type := TR3
def J_f4c : A8 Tryz.prog :=
 BD Tryz.prog Tryz.f73 15 [(1, 3), (8, 2)] [] [] [] [sh_TR3] [] [con_f2k] R_f4c [] fun y => [e_TR3 y]
def S_f4c : AM :=
 Ae Tryz.f73 1 0 X_f4c (fun x => [e_TRg x]) fun l => (d_TRg (at_ l 0))
def tt_f4c (x : X_f4c) : TT Tryz.prog R_f4c :=
 (.need ((((upto x.AQ (Int.toNat x.AQ)) && (BW 0 x.AQ)) && (room (Int.toNat x.AQ) 8)) && (decide ((x.AQ ≤ (9223372036854775807 : Int))))) <|
 (.call con_f2k (x.Cf, x.AQ) fun (y1 : R_f2k) =>
 (.ret (TR3.mk (IntKind.u64.wrap x.Cf) 0 (Sl.mk false (Int.toNat x.AQ) (fun _i2 => (0 : Int))) false y1))))
theorem sd_f4c (x : X_f4c) : (tt_f4c x).AH :=
 (TT.sN (TT.sC fun _ => TT.sR))
def D_f4c : AU X_f4c R_f4c := .of tt_f4c
def con_f4c : A3 Tryz.prog :=
 BS 73 J_f4c S_f4c D_f4c 1 0 [.any] (lk mxk lbn sd_f4c)
abbrev X_f3k : Type := TR3
abbrev R_f3k : Type := TRs
def J_f3k : A8 Tryz.prog :=
 BD Tryz.prog Tryz.f72 17 [(1, 3)] [] [] [] [sh_TRs] [] [] R_f3k [] fun y => [e_TRs y]
def S_f3k : AM :=
 Ae Tryz.f72 1 0 X_f3k (fun x => [e_TR3 x]) fun l => (d_TR3 (at_ l 0))
def tt_f3k (x : X_f3k) : TT Tryz.prog R_f3k :=
 (.need (true && (room ((0 : Nat) + x.AY.n) 8)) <|
 (.need (true && (room ((0 : Nat) + x.S.L.n) 24)) <|
 (.ret (TRs.mk x.Au (Sl.mk (cond (Nat.beq x.AY.n 0) false false) ((0 : Nat) + x.AY.n) (fun i1 => (cond (Nat.blt i1 0) (0 : Int) (x.AY.get (i1 - 0))))) x.Aw (Sl.mk (cond (Nat.beq x.S.L.n 0) false false) ((0 : Nat) + x.S.L.n) (fun i1 => (TSo.mk (cond (Nat.blt i1 0) (0 : Int) (x.S.L.get (i1 - 0)).AO) (cond (Nat.blt i1 0) (0 : Int) (x.S.L.get (i1 - 0)).Value) (cond (Nat.blt i1 0) (0 : Int) (x.S.L.get (i1 - 0)).Left))))))))
theorem sd_f3k (x : X_f3k) : (tt_f3k x).AH :=
 (TT.sN (TT.sN TT.sR))
def D_f3k : AU X_f3k R_f3k := .of tt_f3k
def con_f3k : A3 Tryz.prog :=
 BS 72 J_f3k S_f3k D_f3k 1 0 [sh_TR3] (lk mxk lbn sd_f3k)
abbrev Dsl_TRs : Type := (Sl TRs)
def esl_TRs : Dsl_TRs → V := (Kn none 4 e_TRs)
def dsl_TRs : V → Dsl_TRs := (K5 d_TRs)
def hsl_TRs : Sh := (.sl none 4 (e_TRs (d_TRs .undef)))
structure TSt where
 AB : (Sl TTh)
 AJ : (Sl TRs)
 Gz : Int
 Reads : Int
 CB : Bool
def d_TSt (v : V) : TSt :=
 ⟨dsl_TTh (fd v 0), dsl_TRs (fd v 1), dI (fd v 2), dI (fd v 3), dB (fd v 4)⟩
def e_TSt (x : TSt) : V :=
 V.cons (esl_TTh x.AB) (V.cons (esl_TRs x.AJ) (V.cons ((V.int .u64) x.Gz) (V.cons ((V.int .u64) x.Reads) (V.cons (V.bool x.CB) (V.unit)))))
theorem nu_e_TSt (x : TSt) : (e_TSt x).CU := ⟨trivial, trivial, trivial, trivial, trivial, trivial⟩
def sh_TSt : Sh := (.cons hsl_TTh (.cons hsl_TRs .any))
abbrev DslA_TRs : Type := (Sl TRs)
def eslA_TRs : DslA_TRs → V := (Kn (some 124) 4 e_TRs)
def dslA_TRs : V → DslA_TRs := (K5 d_TRs)
def hslA_TRs : Sh := (.sl (some 124) 4 (e_TRs (d_TRs .undef)))
def e_TSt_1 (x : TSt) : V :=
 V.cons (esl_TTh x.AB) (V.cons (eslA_TRs x.AJ) (V.cons ((V.int .u64) x.Gz) (V.cons ((V.int .u64) x.Reads) (V.cons (V.bool x.CB) (V.unit)))))
theorem nu_e_TSt_1 (x : TSt) : (e_TSt_1 x).CU := ⟨trivial, trivial, trivial, trivial, trivial, trivial⟩
def sh_TSt_1 : Sh := (.cons hsl_TTh (.cons hslA_TRs .any))
abbrev X_f2l : Type := TPg
abbrev R_f2l : Type := TSt
def J_f2l : A8 Tryz.prog :=
 BD Tryz.prog Tryz.f41 30 [(1, 3), (8, 2), (18, 1)] [] [] [] [sh_TSt] [] [con_f4c, con_f3k] R_f2l [] fun y => [e_TSt y]
def S_f2l : AM :=
 Ae Tryz.f41 1 0 X_f2l (fun x => [e_TPg x]) fun l => (d_TPg (at_ l 0))
structure X_f2l_3 where
 CV : TPg
 DH : Int
 Ey : TSt
 A0 : TSt
def S_f2l_3 : AM :=
 Ad Tryz.f41 3 (an [1, 2, 3, 4]) [] [(.loc 2 0, sh_TSt), (.loc 3 0, sh_TSt_1)] X_f2l_3 (fun x => [(C2 e_TPg) x.CV, (V.ptr (.loc 2 0) []), (V.ptr (.loc 3 0) []), (V.int .i64) x.DH, e_TSt x.Ey, e_TSt_1 x.A0]) fun l => ⟨(C3 d_TPg) (at_ l 0), dI (at_ l 3), d_TSt (at_ l 4), d_TSt (at_ l 5)⟩
def tt_f2l_3 (D_f2l_3 : AU X_f2l_3 R_f2l) (x : X_f2l_3) : TT Tryz.prog R_f2l :=
 (.ite (BR x.DH ((x.CV.AJ.n : Nat) : Int))
 (.need (Az x.DH x.CV.AJ.n) <|
 (.call con_f4c (x.CV.AJ.get (Int.toNat x.DH)) fun (y2 : R_f4c) =>
 (.call con_f3k y2 fun (y3 : R_f3k) =>
 (.need (true && (room (x.A0.AJ.n + 1) 64)) <|
 (.jump S_f2l_3 D_f2l_3 (X_f2l_3.mk x.CV (IntKind.i64.wrap (x.DH + 1)) x.Ey (TSt.mk x.A0.AB (Sl.mk (cond (Nat.beq 1 0) x.A0.AJ.nil false) (x.A0.AJ.n + 1) (fun i4 => (TRs.mk (cond (Nat.blt i4 x.A0.AJ.n) (x.A0.AJ.get i4).Au y3.Au) (Sl.mk (cond (Nat.blt i4 x.A0.AJ.n) (x.A0.AJ.get i4).AY.nil y3.AY.nil) (cond (Nat.blt i4 x.A0.AJ.n) (x.A0.AJ.get i4).AY.n y3.AY.n) (fun i5 => (cond (Nat.blt i4 x.A0.AJ.n) ((x.A0.AJ.get i4).AY.get i5) (y3.AY.get i5)))) (cond (Nat.blt i4 x.A0.AJ.n) (x.A0.AJ.get i4).Aw y3.Aw) (Sl.mk (cond (Nat.blt i4 x.A0.AJ.n) (x.A0.AJ.get i4).Am.nil y3.Am.nil) (cond (Nat.blt i4 x.A0.AJ.n) (x.A0.AJ.get i4).Am.n y3.Am.n) (fun i5 => (TSo.mk (cond (Nat.blt i4 x.A0.AJ.n) ((x.A0.AJ.get i4).Am.get i5).AO (y3.Am.get i5).AO) (cond (Nat.blt i4 x.A0.AJ.n) ((x.A0.AJ.get i4).Am.get i5).Value (y3.Am.get i5).Value) (cond (Nat.blt i4 x.A0.AJ.n) ((x.A0.AJ.get i4).Am.get i5).Left (y3.Am.get i5).Left))))))) x.A0.Gz x.A0.Reads x.A0.CB)))))))
 (.ret x.A0))
theorem sd_f2l_3 (D_f2l_3 : AU X_f2l_3 R_f2l) (x : X_f2l_3) : (tt_f2l_3 D_f2l_3 x).AH :=
 (TT.sI (TT.sN (TT.sC fun _ => (TT.sC fun _ => (TT.sN TT.sJ)))) TT.sR)
def D_f2l_3 : AU X_f2l_3 R_f2l := AU.loop tt_f2l_3
theorem ok_f2l_3 : AW J_f2l S_f2l_3 D_f2l_3 :=
 A2 fun D_f2l_3 h_3 => lk mxk (lbc h_3 rfl lbn) (sd_f2l_3 D_f2l_3)
def tt_f2l (x : X_f2l) : TT Tryz.prog R_f2l :=
 (.need ((((upto ((x.AB.n : Nat) : Int) (Int.toNat ((x.AB.n : Nat) : Int))) && (BW 0 ((x.AB.n : Nat) : Int))) && (room (Int.toNat ((x.AB.n : Nat) : Int)) 128)) && (decide ((((x.AB.n : Nat) : Int) ≤ (9223372036854775807 : Int))))) <|
 (.jump S_f2l_3 D_f2l_3 (X_f2l_3.mk x 0 (TSt.mk (Sl.mk true 0 (fun _i1 => (TTh.mk 0 0 0 0 0 (fun _i2 => (0 : Int)) (Sl.mk true 0 (fun _i2 => (0 : Int)))))) (Sl.mk true 0 (fun _i1 => (TRs.mk 0 (Sl.mk true 0 (fun _i2 => (0 : Int))) false (Sl.mk true 0 (fun _i2 => (TSo.mk 0 0 0)))))) 0 0 false) (TSt.mk (Sl.mk false (Int.toNat ((x.AB.n : Nat) : Int)) (fun _i1 => (TTh.mk 0 0 0 0 0 (fun _i2 => (0 : Int)) (Sl.mk true 0 (fun _i2 => (0 : Int)))))) (Sl.mk true 0 (fun _i1 => (TRs.mk 0 (Sl.mk true 0 (fun _i2 => (0 : Int))) false (Sl.mk true 0 (fun _i2 => (TSo.mk 0 0 0)))))) 0 0 false))))
theorem sd_f2l (x : X_f2l) : (tt_f2l x).AH :=
 (TT.sN TT.sJ)
def D_f2l : AU X_f2l R_f2l := .of tt_f2l
def con_f2l : A3 Tryz.prog :=
 BS 41 J_f2l S_f2l D_f2l 1 0 [sh_TPg] (lk mxk (lbc ok_f2l_3 rfl lbn) sd_f2l)
abbrev X_f3w : Type := Int
abbrev R_f3w : Type := ByteArray
def J_f3w : A8 Tryz.prog :=
 BD Tryz.prog Tryz.f78 19 [] [] [] [] [.any] [] [] R_f3w [] fun y => [V.str y]
def S_f3w : AM :=
 Ae Tryz.f78 1 0 X_f3w (fun x => [(V.int .i64) x]) fun l => (dI (at_ l 0))
def tt_f3w (x : X_f3w) : TT Tryz.prog R_f3w :=
 (.ite (AX x 1)
 (.ret (ByteArray.mk #[82, 84]))
 (.ite (AX x 2)
 (.ret (ByteArray.mk #[82, 84]))
 (.ite (AX x 3)
 (.ret (ByteArray.mk #[82, 84]))
 (.ite (AX x 4)
 (.ret (ByteArray.mk #[82, 84]))
 (.ite (AX x 13)
 (.ret (ByteArray.mk #[82, 84]))
 (.ite (AX x 5)
 (.ret (ByteArray.mk #[82]))
 (.ite (AX x 6)
 (.ret (ByteArray.mk #[82]))
 (.ite (AX x 7)
 (.ret (ByteArray.mk #[82]))
 (.ite (AX x 8)
 (.ret (ByteArray.mk #[86]))
 (.ite (AX x 9)
 (.ret (ByteArray.mk #[86]))
 (.ite (AX x 10)
 (.ret (ByteArray.mk #[86]))
 (.ite (AX x 12)
 (.ret (ByteArray.mk #[86]))
 (.ret (ByteArray.mk #[]))))))))))))))
theorem sd_f3w (x : X_f3w) : (tt_f3w x).AH :=
 (TT.sI TT.sR (TT.sI TT.sR (TT.sI TT.sR (TT.sI TT.sR (TT.sI TT.sR (TT.sI TT.sR (TT.sI TT.sR (TT.sI TT.sR (TT.sI TT.sR (TT.sI TT.sR (TT.sI TT.sR (TT.sI TT.sR TT.sR))))))))))))
def D_f3w : AU X_f3w R_f3w := .of tt_f3w
def con_f3w : A3 Tryz.prog :=
 BS 78 J_f3w S_f3w D_f3w 1 0 [.any] (lk mxk lbn sd_f3w)
abbrev X_f2y : Type := Int
abbrev R_f2y : Type := ByteArray
def J_f2y : A8 Tryz.prog :=
 BD Tryz.prog Tryz.f51 16 [(11, 1)] [] [] [] [.any] [] [] R_f2y [] fun y => [V.str y]
def S_f2y : AM :=
 Ae Tryz.f51 1 0 X_f2y (fun x => [(V.int .i64) x]) fun l => (dI (at_ l 0))
structure X_f2y_4 where
 HJ : Int
 L2 : (Sl ByteArray)
def S_f2y_4 : AM :=
 Ad Tryz.f51 4 [(0, .any), (3, L7)] [] [] X_f2y_4 (fun x => [(V.int .i64) x.HJ, PJ x.L2]) fun l => ⟨dI (at_ l 0), PK (at_ l 1)⟩
def tt_f2y_4 (x : X_f2y_4) : TT Tryz.prog R_f2y :=
 (.need (Az (IntKind.i64.wrap (x.HJ - 1)) x.L2.n) <|
 (.ret (x.L2.get (Int.toNat (IntKind.i64.wrap (x.HJ - 1))))))
theorem sd_f2y_4 (x : X_f2y_4) : (tt_f2y_4 x).AH :=
 (TT.sN TT.sR)
def D_f2y_4 : AU X_f2y_4 R_f2y := .of tt_f2y_4
theorem ok_f2y_4 : AW J_f2y S_f2y_4 D_f2y_4 :=
 lk mxk lbn sd_f2y_4
def tt_f2y (x : X_f2y) : TT Tryz.prog R_f2y :=
 (.ite (BR x 1)
 (.ret (ByteArray.mk #[]))
 (.ite (BR 15 x)
 (.ret (ByteArray.mk #[]))
 (.jump S_f2y_4 D_f2y_4 (X_f2y_4.mk x (Sl.mk false 15 (fun i1 => (cond (Nat.beq i1 0) (ByteArray.mk #[99, 108, 97, 105, 109]) (cond (Nat.beq i1 1) (ByteArray.mk #[112, 117, 98, 108, 105, 115, 104]) (cond (Nat.beq i1 2) (ByteArray.mk #[116, 97, 107, 101]) (cond (Nat.beq i1 3) (ByteArray.mk #[114, 101, 108, 101, 97, 115, 101]) (cond (Nat.beq i1 4) (ByteArray.mk #[110, 111]) (cond (Nat.beq i1 5) (ByteArray.mk #[115, 104, 117, 116]) (cond (Nat.beq i1 6) (ByteArray.mk #[116, 105, 109, 101]) (cond (Nat.beq i1 7) (ByteArray.mk #[99, 108, 111, 99, 107]) (cond (Nat.beq i1 8) (ByteArray.mk #[100, 114, 97, 119]) (cond (Nat.beq i1 9) (ByteArray.mk #[114, 101, 97, 100]) (cond (Nat.beq i1 10) (ByteArray.mk #[101, 110, 100]) (cond (Nat.beq i1 11) (ByteArray.mk #[115, 101, 101]) (cond (Nat.beq i1 12) (ByteArray.mk #[99, 108, 111, 115, 101]) (cond (Nat.beq i1 13) (ByteArray.mk #[104, 97, 108, 116]) (ByteArray.mk #[115, 112, 105, 110])))))))))))))))))))))
theorem sd_f2y (x : X_f2y) : (tt_f2y x).AH :=
 (TT.sI TT.sR (TT.sI TT.sR TT.sJ))
def D_f2y : AU X_f2y R_f2y := .of tt_f2y
def con_f2y : A3 Tryz.prog :=
 BS 51 J_f2y S_f2y D_f2y 1 0 [.any] (lk mxk (lbc ok_f2y_4 rfl lbn) sd_f2y)
abbrev X_f1w : Type := ByteArray × Int
abbrev R_f1w : Type := Bool
def J_f1w : A8 Tryz.prog :=
 BD Tryz.prog Tryz.f91 17 [] [] [] [] [.any] [] [] R_f1w [] fun y => [V.bool y]
def S_f1w : AM :=
 Ae Tryz.f91 2 0 X_f1w (fun x => [V.str x.1, (V.int .u8) x.2]) fun l => (dS (at_ l 0), dI (at_ l 1))
structure X_f1w_2 where
 SG : ByteArray
 VS : Int
 N1 : Int
def S_f1w_2 : AM :=
 Ad Tryz.f91 2 (an [0, 1, 5]) [] [] X_f1w_2 (fun x => [V.str x.SG, (V.int .u8) x.VS, (V.int .i64) x.N1]) fun l => ⟨dS (at_ l 0), dI (at_ l 1), dI (at_ l 2)⟩
def tt_f1w_2 (D_f1w_2 : AU X_f1w_2 R_f1w) (x : X_f1w_2) : TT Tryz.prog R_f1w :=
 (.ite (BR x.N1 (((ByteArray.size x.SG) : Nat) : Int))
 (.need (Az x.N1 (ByteArray.size x.SG)) <|
 (.ite (AX (bt x.SG (Int.toNat x.N1)) x.VS)
 (.ret true)
 (.jump S_f1w_2 D_f1w_2 (X_f1w_2.mk x.SG x.VS (IntKind.i64.wrap (x.N1 + 1))))))
 (.ret false))
theorem sd_f1w_2 (D_f1w_2 : AU X_f1w_2 R_f1w) (x : X_f1w_2) : (tt_f1w_2 D_f1w_2 x).AH :=
 (TT.sI (TT.sN (TT.sI TT.sR TT.sJ)) TT.sR)
def D_f1w_2 : AU X_f1w_2 R_f1w := AU.loop tt_f1w_2
theorem ok_f1w_2 : AW J_f1w S_f1w_2 D_f1w_2 :=
 A2 fun D_f1w_2 h_2 => lk mxk (lbc h_2 rfl lbn) (sd_f1w_2 D_f1w_2)
def tt_f1w (x : X_f1w) : TT Tryz.prog R_f1w :=
 (.jump S_f1w_2 D_f1w_2 (X_f1w_2.mk x.fst x.snd 0))
theorem sd_f1w (x : X_f1w) : (tt_f1w x).AH :=
 TT.sJ
def D_f1w : AU X_f1w R_f1w := .of tt_f1w
def con_f1w : A3 Tryz.prog :=
 BS 91 J_f1w S_f1w D_f1w 2 0 [.any, .any] (lk mxk (lbc ok_f1w_2 rfl lbn) sd_f1w)
abbrev X_f2i : Type := TEv
abbrev R_f2i : Type := Bool
def J_f2i : A8 Tryz.prog :=
 BD Tryz.prog Tryz.f49 61 [(1, 3)] [] [] [] [.any] [] [con_f2y, con_f3w, con_f1w] R_f2i [] fun y => [V.bool y]
def S_f2i : AM :=
 Ae Tryz.f49 1 0 X_f2i (fun x => [e_TEv x]) fun l => (d_TEv (at_ l 0))
structure X_f2i_4 where
 Mi : TEv
 MH : ByteArray
def S_f2i_4 : AM :=
 Ad Tryz.f49 4 (an [1, 3]) [] [] X_f2i_4 (fun x => [(C2 e_TEv) x.Mi, V.str x.MH]) fun l => ⟨(C3 d_TEv) (at_ l 0), dS (at_ l 1)⟩
def tt_f2i_4 (x : X_f2i_4) : TT Tryz.prog R_f2i :=
 (.call con_f1w (x.MH, 82) fun (y1 : R_f1w) =>
 (.ite y1
 (.call con_f1w (x.MH, 84) fun (y2 : R_f1w) =>
 (.ite y2
 (.call con_f1w (x.MH, 86) fun (y3 : R_f1w) =>
 (.ite y3
 (.ret true)
 (.ret (AX x.Mi.Value 0))))
 (.ite (AX x.Mi.AG 0)
 (.call con_f1w (x.MH, 86) fun (y3 : R_f1w) =>
 (.ite y3
 (.ret true)
 (.ret (AX x.Mi.Value 0))))
 (.ret false))))
 (.ite (AX x.Mi.Ring 0)
 (.call con_f1w (x.MH, 84) fun (y2 : R_f1w) =>
 (.ite y2
 (.call con_f1w (x.MH, 86) fun (y3 : R_f1w) =>
 (.ite y3
 (.ret true)
 (.ret (AX x.Mi.Value 0))))
 (.ite (AX x.Mi.AG 0)
 (.call con_f1w (x.MH, 86) fun (y3 : R_f1w) =>
 (.ite y3
 (.ret true)
 (.ret (AX x.Mi.Value 0))))
 (.ret false))))
 (.ret false))))
theorem sd_f2i_4 (x : X_f2i_4) : (tt_f2i_4 x).AH :=
 (TT.sC fun _ => (TT.sI (TT.sC fun _ => (TT.sI (TT.sC fun _ => (TT.sI TT.sR TT.sR)) (TT.sI (TT.sC fun _ => (TT.sI TT.sR TT.sR)) TT.sR))) (TT.sI (TT.sC fun _ => (TT.sI (TT.sC fun _ => (TT.sI TT.sR TT.sR)) (TT.sI (TT.sC fun _ => (TT.sI TT.sR TT.sR)) TT.sR))) TT.sR)))
def D_f2i_4 : AU X_f2i_4 R_f2i := .of tt_f2i_4
theorem ok_f2i_4 : AW J_f2i S_f2i_4 D_f2i_4 :=
 lk mxk lbn sd_f2i_4
def tt_f2i (x : X_f2i) : TT Tryz.prog R_f2i :=
 (.call con_f3w x.Kind fun (y1 : R_f3w) =>
 (.call con_f2y x.Kind fun (y2 : R_f2y) =>
 (.ite (seq y2 (ByteArray.mk #[]))
 (.ret false)
 (.ite (BR x.Thread 0)
 (.ret false)
 (.ite (BR 7 x.Thread)
 (.ret false)
 (.ite (BR x.Ring 0)
 (.ret false)
 (.ite (BR 7 x.Ring)
 (.ret false)
 (.ite (BW 4611686018427387904 x.AG)
 (.ret false)
 (.jump S_f2i_4 D_f2i_4 (X_f2i_4.mk x y1))))))))))
theorem sd_f2i (x : X_f2i) : (tt_f2i x).AH :=
 (TT.sC fun _ => (TT.sC fun _ => (TT.sI TT.sR (TT.sI TT.sR (TT.sI TT.sR (TT.sI TT.sR (TT.sI TT.sR (TT.sI TT.sR TT.sJ))))))))
def D_f2i : AU X_f2i R_f2i := .of tt_f2i
def con_f2i : A3 Tryz.prog :=
 BS 49 J_f2i S_f2i D_f2i 1 0 [.any] (lk mxk (lbc ok_f2i_4 rfl lbn) sd_f2i)
abbrev X_fa : Type := Int × Int × Int
abbrev R_fa : Type := Int
def J_fa : A8 Tryz.prog :=
 BD Tryz.prog Tryz.f199 58 [] [] [] [] [.any] [] [] R_fa [] fun y => [(V.int .u64) y]
def S_fa : AM :=
 Ae Tryz.f199 3 0 X_fa (fun x => [(V.int .i64) x.1, (V.int .u64) x.2.1, (V.int .u64) x.2.2]) fun l => (dI (at_ l 0), dI (at_ l 1), dI (at_ l 2))
structure X_fa_3 where
 DJ : Int
 FL : Int
 GH : Int
 Cv : Int
 BZ : Int
 Gt : Int
def S_fa_3 : AM :=
 Ad Tryz.f199 3 (an [0, 1, 2, 7, 8, 9]) [] [] X_fa_3 (fun x => [(V.int .i64) x.DJ, (V.int .u64) x.FL, (V.int .u64) x.GH, (V.int .u64) x.Cv, (V.int .u64) x.BZ, (V.int .i64) x.Gt]) fun l => ⟨dI (at_ l 0), dI (at_ l 1), dI (at_ l 2), dI (at_ l 3), dI (at_ l 4), dI (at_ l 5)⟩
structure X_fa_4 where
 DJ : Int
 FL : Int
 GH : Int
 Cv : Int
 BZ : Int
 Gt : Int
def S_fa_4 : AM :=
 Ad Tryz.f199 4 (an [0, 1, 2, 7, 8, 9]) [] [] X_fa_4 (fun x => [(V.int .i64) x.DJ, (V.int .u64) x.FL, (V.int .u64) x.GH, (V.int .u64) x.Cv, (V.int .u64) x.BZ, (V.int .i64) x.Gt]) fun l => ⟨dI (at_ l 0), dI (at_ l 1), dI (at_ l 2), dI (at_ l 3), dI (at_ l 4), dI (at_ l 5)⟩
structure X_fa_8 where
 DJ : Int
 FL : Int
 GH : Int
 Cv : Int
 BZ : Int
 Gt : Int
def S_fa_8 : AM :=
 Ad Tryz.f199 8 (an [0, 1, 2, 7, 8, 9]) [] [] X_fa_8 (fun x => [(V.int .i64) x.DJ, (V.int .u64) x.FL, (V.int .u64) x.GH, (V.int .u64) x.Cv, (V.int .u64) x.BZ, (V.int .i64) x.Gt]) fun l => ⟨dI (at_ l 0), dI (at_ l 1), dI (at_ l 2), dI (at_ l 3), dI (at_ l 4), dI (at_ l 5)⟩
def tt_fa_4 (D_fa_3 : AU X_fa_3 R_fa) (x : X_fa_4) : TT Tryz.prog R_fa :=
 (.jump S_fa_3 D_fa_3 (X_fa_3.mk x.DJ x.FL x.GH x.Cv x.BZ (IntKind.i64.wrap (x.Gt + 1))))
theorem sd_fa_4 (D_fa_3 : AU X_fa_3 R_fa) (x : X_fa_4) : (tt_fa_4 D_fa_3 x).AH :=
 TT.sJ
def D_fa_4 (D_fa_3 : AU X_fa_3 R_fa) : AU X_fa_4 R_fa := .of (tt_fa_4 D_fa_3)
theorem ok_fa_4 (D_fa_3 : AU X_fa_3 R_fa) (h_3 : AW J_fa S_fa_3 D_fa_3) : AW J_fa S_fa_4 (D_fa_4 D_fa_3) :=
 lk mxk (lbc h_3 rfl lbn) (sd_fa_4 D_fa_3)
def tt_fa_8 (D_fa_3 : AU X_fa_3 R_fa) (x : X_fa_8) : TT Tryz.prog R_fa :=
 (.jump S_fa_4 (D_fa_4 D_fa_3) (X_fa_4.mk x.DJ (IntKind.u64.wrap (Int.tdiv x.FL 2)) (IntKind.u64.wrap (Int.tdiv x.GH 2)) x.Cv (IntKind.u64.wrap (x.BZ * 2)) x.Gt))
theorem sd_fa_8 (D_fa_3 : AU X_fa_3 R_fa) (x : X_fa_8) : (tt_fa_8 D_fa_3 x).AH :=
 TT.sJ
def D_fa_8 (D_fa_3 : AU X_fa_3 R_fa) : AU X_fa_8 R_fa := .of (tt_fa_8 D_fa_3)
theorem ok_fa_8 (D_fa_3 : AU X_fa_3 R_fa) (h_3 : AW J_fa S_fa_3 D_fa_3) : AW J_fa S_fa_8 (D_fa_8 D_fa_3) :=
 lk mxk (lbc h_3 rfl (lbc (ok_fa_4 D_fa_3 h_3) rfl lbn)) (sd_fa_8 D_fa_3)
def tt_fa_3 (D_fa_3 : AU X_fa_3 R_fa) (x : X_fa_3) : TT Tryz.prog R_fa :=
 (.ite (BR x.Gt 64)
 (.ite (AX x.DJ 8)
 (.ite (AX (IntKind.u64.wrap ((Int.tmod x.FL 2) + (Int.tmod x.GH 2))) 2)
 (.jump S_fa_8 (D_fa_8 D_fa_3) (X_fa_8.mk x.DJ x.FL x.GH (IntKind.u64.wrap (x.Cv + x.BZ)) x.BZ x.Gt))
 (.ite (AX x.DJ 9)
 (.ite (BR 0 (IntKind.u64.wrap ((Int.tmod x.FL 2) + (Int.tmod x.GH 2))))
 (.jump S_fa_8 (D_fa_8 D_fa_3) (X_fa_8.mk x.DJ x.FL x.GH (IntKind.u64.wrap (x.Cv + x.BZ)) x.BZ x.Gt))
 (.ite (AX x.DJ 10)
 (.ite (AX (IntKind.u64.wrap ((Int.tmod x.FL 2) + (Int.tmod x.GH 2))) 1)
 (.jump S_fa_8 (D_fa_8 D_fa_3) (X_fa_8.mk x.DJ x.FL x.GH (IntKind.u64.wrap (x.Cv + x.BZ)) x.BZ x.Gt))
 (.jump S_fa_8 (D_fa_8 D_fa_3) (X_fa_8.mk x.DJ x.FL x.GH x.Cv x.BZ x.Gt)))
 (.jump S_fa_8 (D_fa_8 D_fa_3) (X_fa_8.mk x.DJ x.FL x.GH x.Cv x.BZ x.Gt))))
 (.ite (AX x.DJ 10)
 (.ite (AX (IntKind.u64.wrap ((Int.tmod x.FL 2) + (Int.tmod x.GH 2))) 1)
 (.jump S_fa_8 (D_fa_8 D_fa_3) (X_fa_8.mk x.DJ x.FL x.GH (IntKind.u64.wrap (x.Cv + x.BZ)) x.BZ x.Gt))
 (.jump S_fa_8 (D_fa_8 D_fa_3) (X_fa_8.mk x.DJ x.FL x.GH x.Cv x.BZ x.Gt)))
 (.jump S_fa_8 (D_fa_8 D_fa_3) (X_fa_8.mk x.DJ x.FL x.GH x.Cv x.BZ x.Gt)))))
 (.ite (AX x.DJ 9)
 (.ite (BR 0 (IntKind.u64.wrap ((Int.tmod x.FL 2) + (Int.tmod x.GH 2))))
 (.jump S_fa_8 (D_fa_8 D_fa_3) (X_fa_8.mk x.DJ x.FL x.GH (IntKind.u64.wrap (x.Cv + x.BZ)) x.BZ x.Gt))
 (.ite (AX x.DJ 10)
 (.ite (AX (IntKind.u64.wrap ((Int.tmod x.FL 2) + (Int.tmod x.GH 2))) 1)
 (.jump S_fa_8 (D_fa_8 D_fa_3) (X_fa_8.mk x.DJ x.FL x.GH (IntKind.u64.wrap (x.Cv + x.BZ)) x.BZ x.Gt))
 (.jump S_fa_8 (D_fa_8 D_fa_3) (X_fa_8.mk x.DJ x.FL x.GH x.Cv x.BZ x.Gt)))
 (.jump S_fa_8 (D_fa_8 D_fa_3) (X_fa_8.mk x.DJ x.FL x.GH x.Cv x.BZ x.Gt))))
 (.ite (AX x.DJ 10)
 (.ite (AX (IntKind.u64.wrap ((Int.tmod x.FL 2) + (Int.tmod x.GH 2))) 1)
 (.jump S_fa_8 (D_fa_8 D_fa_3) (X_fa_8.mk x.DJ x.FL x.GH (IntKind.u64.wrap (x.Cv + x.BZ)) x.BZ x.Gt))
 (.jump S_fa_8 (D_fa_8 D_fa_3) (X_fa_8.mk x.DJ x.FL x.GH x.Cv x.BZ x.Gt)))
 (.jump S_fa_8 (D_fa_8 D_fa_3) (X_fa_8.mk x.DJ x.FL x.GH x.Cv x.BZ x.Gt)))))
 (.ret x.Cv))
theorem sd_fa_3 (D_fa_3 : AU X_fa_3 R_fa) (x : X_fa_3) : (tt_fa_3 D_fa_3 x).AH :=
 (TT.sI (TT.sI (TT.sI TT.sJ (TT.sI (TT.sI TT.sJ (TT.sI (TT.sI TT.sJ TT.sJ) TT.sJ)) (TT.sI (TT.sI TT.sJ TT.sJ) TT.sJ))) (TT.sI (TT.sI TT.sJ (TT.sI (TT.sI TT.sJ TT.sJ) TT.sJ)) (TT.sI (TT.sI TT.sJ TT.sJ) TT.sJ))) TT.sR)
def D_fa_3 : AU X_fa_3 R_fa := AU.loop tt_fa_3
theorem ok_fa_3 : AW J_fa S_fa_3 D_fa_3 :=
 A2 fun D_fa_3 h_3 => lk mxk (lbc h_3 rfl (lbc (ok_fa_4 D_fa_3 h_3) rfl (lbc (ok_fa_8 D_fa_3 h_3) rfl lbn))) (sd_fa_3 D_fa_3)
def tt_fa (x : X_fa) : TT Tryz.prog R_fa :=
 (.jump S_fa_3 D_fa_3 (X_fa_3.mk x.fst x.snd.fst x.snd.snd 0 1 0))
theorem sd_fa (x : X_fa) : (tt_fa x).AH :=
 TT.sJ
def D_fa : AU X_fa R_fa := .of tt_fa
def con_fa : A3 Tryz.prog :=
 BS 199 J_fa S_fa D_fa 3 0 [.any, .any, .any] (lk mxk (lbc ok_fa_3 rfl lbn) sd_fa)
abbrev X_fr : Type := Int × Int × Int
abbrev R_fr : Type := Int × Bool
def J_fr : A8 Tryz.prog :=
 BD Tryz.prog Tryz.f185 84 [] [] [] [] [.any, .any] [] [con_fa] R_fr [] fun y => [V.B9 (V.cons ((V.int .u64) y.1) (V.cons (V.bool y.2) (V.unit)))]
def S_fr : AM :=
 Ae Tryz.f185 3 0 X_fr (fun x => [(V.int .i64) x.1, (V.int .u64) x.2.1, (V.int .u64) x.2.2]) fun l => (dI (at_ l 0), dI (at_ l 1), dI (at_ l 2))
structure X_fr_22 where
 FL : Int
 GH : Int
 i_8 : Int
def S_fr_22 : AM :=
 Ad Tryz.f185 22 (an [1, 2, 8]) [] [] X_fr_22 (fun x => [(V.int .u64) x.FL, (V.int .u64) x.GH, (V.int .u64) x.i_8]) fun l => ⟨dI (at_ l 0), dI (at_ l 1), dI (at_ l 2)⟩
structure X_fr_25 where
 FL : Int
def S_fr_25 : AM :=
 Ad Tryz.f185 25 [(1, .any)] [] [] X_fr_25 (fun x => [(V.int .u64) x.FL]) fun l => ⟨dI (at_ l 0)⟩
structure X_fr_28 where
 FL : Int
 GH : Int
 Gt : Int
def S_fr_28 : AM :=
 Ad Tryz.f185 28 (an [1, 2, 9]) [] [] X_fr_28 (fun x => [(V.int .u64) x.FL, (V.int .u64) x.GH, (V.int .u64) x.Gt]) fun l => ⟨dI (at_ l 0), dI (at_ l 1), dI (at_ l 2)⟩
structure X_fr_31 where
 FL : Int
def S_fr_31 : AM :=
 Ad Tryz.f185 31 [(1, .any)] [] [] X_fr_31 (fun x => [(V.int .u64) x.FL]) fun l => ⟨dI (at_ l 0)⟩
def tt_fr_31 (x : X_fr_31) : TT Tryz.prog R_fr :=
 (.ret (x.FL, true))
theorem sd_fr_31 (x : X_fr_31) : (tt_fr_31 x).AH :=
 TT.sR
def D_fr_31 : AU X_fr_31 R_fr := .of tt_fr_31
theorem ok_fr_31 : AW J_fr S_fr_31 D_fr_31 :=
 lk mxk lbn sd_fr_31
def tt_fr_28 (D_fr_28 : AU X_fr_28 R_fr) (x : X_fr_28) : TT Tryz.prog R_fr :=
 (.ite (BR x.Gt (Int.tmod x.GH 64))
 (.jump S_fr_28 D_fr_28 (X_fr_28.mk (IntKind.u64.wrap (Int.tdiv x.FL 2)) x.GH (IntKind.u64.wrap (x.Gt + 1))))
 (.jump S_fr_31 D_fr_31 (X_fr_31.mk x.FL)))
theorem sd_fr_28 (D_fr_28 : AU X_fr_28 R_fr) (x : X_fr_28) : (tt_fr_28 D_fr_28 x).AH :=
 (TT.sI TT.sJ TT.sJ)
def D_fr_28 : AU X_fr_28 R_fr := AU.loop tt_fr_28
theorem ok_fr_28 : AW J_fr S_fr_28 D_fr_28 :=
 A2 fun D_fr_28 h_28 => lk mxk (lbc h_28 rfl (lbc ok_fr_31 rfl lbn)) (sd_fr_28 D_fr_28)
def tt_fr_25 (x : X_fr_25) : TT Tryz.prog R_fr :=
 (.ret (x.FL, true))
theorem sd_fr_25 (x : X_fr_25) : (tt_fr_25 x).AH :=
 TT.sR
def D_fr_25 : AU X_fr_25 R_fr := .of tt_fr_25
theorem ok_fr_25 : AW J_fr S_fr_25 D_fr_25 :=
 lk mxk (lbc ok_fr_31 rfl (lbc ok_fr_28 rfl lbn)) sd_fr_25
def tt_fr_22 (D_fr_22 : AU X_fr_22 R_fr) (x : X_fr_22) : TT Tryz.prog R_fr :=
 (.ite (BR x.i_8 (Int.tmod x.GH 64))
 (.jump S_fr_22 D_fr_22 (X_fr_22.mk (IntKind.u64.wrap (x.FL * 2)) x.GH (IntKind.u64.wrap (x.i_8 + 1))))
 (.jump S_fr_25 D_fr_25 (X_fr_25.mk x.FL)))
theorem sd_fr_22 (D_fr_22 : AU X_fr_22 R_fr) (x : X_fr_22) : (tt_fr_22 D_fr_22 x).AH :=
 (TT.sI TT.sJ TT.sJ)
def D_fr_22 : AU X_fr_22 R_fr := AU.loop tt_fr_22
theorem ok_fr_22 : AW J_fr S_fr_22 D_fr_22 :=
 A2 fun D_fr_22 h_22 => lk mxk (lbc h_22 rfl (lbc ok_fr_31 rfl (lbc ok_fr_28 rfl (lbc ok_fr_25 rfl lbn)))) (sd_fr_22 D_fr_22)
def tt_fr (x : X_fr) : TT Tryz.prog R_fr :=
 (.ite (AX x.fst 3)
 (.ret ((IntKind.u64.wrap (x.snd.fst + x.snd.snd)), true))
 (.ite (AX x.fst 4)
 (.ret ((IntKind.u64.wrap (x.snd.fst - x.snd.snd)), true))
 (.ite (AX x.fst 5)
 (.ret ((IntKind.u64.wrap (x.snd.fst * x.snd.snd)), true))
 (.ite (AX x.fst 6)
 (.ite (AX x.snd.snd 0)
 (.ret (0, true))
 (.need (!(AX x.snd.snd 0)) <|
 (.ret ((IntKind.u64.wrap (Int.tdiv x.snd.fst x.snd.snd)), true))))
 (.ite (AX x.fst 7)
 (.ite (AX x.snd.snd 0)
 (.ret (0, true))
 (.need (!(AX x.snd.snd 0)) <|
 (.ret ((IntKind.u64.wrap (x.snd.fst - (IntKind.u64.wrap ((IntKind.u64.wrap (Int.tdiv x.snd.fst x.snd.snd)) * x.snd.snd)))), true))))
 (.ite (AX x.fst 8)
 (.call con_fa x fun (y1 : R_fa) =>
 (.ret (y1, true)))
 (.ite (AX x.fst 9)
 (.call con_fa x fun (y1 : R_fa) =>
 (.ret (y1, true)))
 (.ite (AX x.fst 10)
 (.call con_fa x fun (y1 : R_fa) =>
 (.ret (y1, true)))
 (.ite (AX x.fst 11)
 (.jump S_fr_22 D_fr_22 (X_fr_22.mk x.snd.fst x.snd.snd 0))
 (.ite (AX x.fst 12)
 (.jump S_fr_28 D_fr_28 (X_fr_28.mk x.snd.fst x.snd.snd 0))
 (.ite (AX x.fst 13)
 (.ite (BR x.snd.fst x.snd.snd)
 (.ret (1, true))
 (.ret (0, true)))
 (.ite (AX x.fst 14)
 (.ite (AX x.snd.fst x.snd.snd)
 (.ret (1, true))
 (.ret (0, true)))
 (.ret (0, false))))))))))))))
theorem sd_fr (x : X_fr) : (tt_fr x).AH :=
 (TT.sI TT.sR (TT.sI TT.sR (TT.sI TT.sR (TT.sI (TT.sI TT.sR (TT.sN TT.sR)) (TT.sI (TT.sI TT.sR (TT.sN TT.sR)) (TT.sI (TT.sC fun _ => TT.sR) (TT.sI (TT.sC fun _ => TT.sR) (TT.sI (TT.sC fun _ => TT.sR) (TT.sI TT.sJ (TT.sI TT.sJ (TT.sI (TT.sI TT.sR TT.sR) (TT.sI (TT.sI TT.sR TT.sR) TT.sR))))))))))))
def D_fr : AU X_fr R_fr := .of tt_fr
def con_fr : A3 Tryz.prog :=
 BS 185 J_fr S_fr D_fr 3 0 [.any, .any, .any] (lk mxk (lbc ok_fr_31 rfl (lbc ok_fr_28 rfl (lbc ok_fr_25 rfl (lbc ok_fr_22 rfl lbn)))) sd_fr)
abbrev X_f3x : Type := (Sl TIn) × TTh
abbrev R_f3x : Type := TTh
def J_f3x : A8 Tryz.prog :=
 BD Tryz.prog Tryz.f157 100 [(8, 1), (78, 1)] [] [] [] [sh_TTh] [] [con_fr] R_f3x [] fun y => [e_TTh y]
def S_f3x : AM :=
 Ae Tryz.f157 2 0 X_f3x (fun x => [esl_TIn x.1, e_TTh x.2]) fun l => (dsl_TIn (at_ l 0), d_TTh (at_ l 1))
def tt_f3x (x : X_f3x) : TT Tryz.prog R_f3x :=
 (.need (Az x.snd.At x.fst.n) <|
 (.ite (AX (x.fst.get (Int.toNat x.snd.At)).Op 1)
 (.need (Az (x.fst.get (Int.toNat x.snd.At)).A 8) <|
 (.ret (TTh.mk (IntKind.i64.wrap (x.snd.At + 1)) x.snd.Phase x.snd.Ring x.snd.Status x.snd.AG (fun i1 => (cond (Nat.beq i1 (Int.toNat (x.fst.get (Int.toNat x.snd.At)).A)) (x.fst.get (Int.toNat x.snd.At)).K (x.snd.Af i1))) x.snd.Seen)))
 (.ite (AX (x.fst.get (Int.toNat x.snd.At)).Op 2)
 (.need (Az (x.fst.get (Int.toNat x.snd.At)).B 8) <|
 (.need (Az (x.fst.get (Int.toNat x.snd.At)).A 8) <|
 (.ret (TTh.mk (IntKind.i64.wrap (x.snd.At + 1)) x.snd.Phase x.snd.Ring x.snd.Status x.snd.AG (fun i1 => (cond (Nat.beq i1 (Int.toNat (x.fst.get (Int.toNat x.snd.At)).A)) (x.snd.Af (Int.toNat (x.fst.get (Int.toNat x.snd.At)).B)) (x.snd.Af i1))) x.snd.Seen))))
 (.ite (AX (x.fst.get (Int.toNat x.snd.At)).Op 15)
 (.ret (TTh.mk (IntKind.i64.wrap (x.fst.get (Int.toNat x.snd.At)).K) x.snd.Phase x.snd.Ring x.snd.Status x.snd.AG x.snd.Af x.snd.Seen))
 (.ite (AX (x.fst.get (Int.toNat x.snd.At)).Op 16)
 (.need (Az (x.fst.get (Int.toNat x.snd.At)).A 8) <|
 (.ite (AX (x.snd.Af (Int.toNat (x.fst.get (Int.toNat x.snd.At)).A)) 0)
 (.ret (TTh.mk (IntKind.i64.wrap (x.fst.get (Int.toNat x.snd.At)).K) x.snd.Phase x.snd.Ring x.snd.Status x.snd.AG x.snd.Af x.snd.Seen))
 (.ite (AX (x.fst.get (Int.toNat x.snd.At)).Op 17)
 (.need (Az (x.fst.get (Int.toNat x.snd.At)).A 8) <|
 (.ite (!(AX (x.snd.Af (Int.toNat (x.fst.get (Int.toNat x.snd.At)).A)) 0))
 (.ret (TTh.mk (IntKind.i64.wrap (x.fst.get (Int.toNat x.snd.At)).K) x.snd.Phase x.snd.Ring x.snd.Status x.snd.AG x.snd.Af x.snd.Seen))
 (.ite (BR (x.fst.get (Int.toNat x.snd.At)).Op 15)
 (.need (Az (x.fst.get (Int.toNat x.snd.At)).B 8) <|
 (.need (Az (x.fst.get (Int.toNat x.snd.At)).C 8) <|
 (.call con_fr ((x.fst.get (Int.toNat x.snd.At)).Op, ((x.snd.Af (Int.toNat (x.fst.get (Int.toNat x.snd.At)).B)), (x.snd.Af (Int.toNat (x.fst.get (Int.toNat x.snd.At)).C)))) fun (y1 : R_fr) =>
 (.need (Az (x.fst.get (Int.toNat x.snd.At)).A 8) <|
 (.ret (TTh.mk (IntKind.i64.wrap (x.snd.At + 1)) x.snd.Phase x.snd.Ring x.snd.Status x.snd.AG (fun i2 => (cond (Nat.beq i2 (Int.toNat (x.fst.get (Int.toNat x.snd.At)).A)) y1.fst (x.snd.Af i2))) x.snd.Seen))))))
 (.ret (TTh.mk (IntKind.i64.wrap (x.snd.At + 1)) x.snd.Phase x.snd.Ring x.snd.Status x.snd.AG x.snd.Af x.snd.Seen)))))
 (.ite (BR (x.fst.get (Int.toNat x.snd.At)).Op 15)
 (.need (Az (x.fst.get (Int.toNat x.snd.At)).B 8) <|
 (.need (Az (x.fst.get (Int.toNat x.snd.At)).C 8) <|
 (.call con_fr ((x.fst.get (Int.toNat x.snd.At)).Op, ((x.snd.Af (Int.toNat (x.fst.get (Int.toNat x.snd.At)).B)), (x.snd.Af (Int.toNat (x.fst.get (Int.toNat x.snd.At)).C)))) fun (y1 : R_fr) =>
 (.need (Az (x.fst.get (Int.toNat x.snd.At)).A 8) <|
 (.ret (TTh.mk (IntKind.i64.wrap (x.snd.At + 1)) x.snd.Phase x.snd.Ring x.snd.Status x.snd.AG (fun i2 => (cond (Nat.beq i2 (Int.toNat (x.fst.get (Int.toNat x.snd.At)).A)) y1.fst (x.snd.Af i2))) x.snd.Seen))))))
 (.ret (TTh.mk (IntKind.i64.wrap (x.snd.At + 1)) x.snd.Phase x.snd.Ring x.snd.Status x.snd.AG x.snd.Af x.snd.Seen))))))
 (.ite (AX (x.fst.get (Int.toNat x.snd.At)).Op 17)
 (.need (Az (x.fst.get (Int.toNat x.snd.At)).A 8) <|
 (.ite (!(AX (x.snd.Af (Int.toNat (x.fst.get (Int.toNat x.snd.At)).A)) 0))
 (.ret (TTh.mk (IntKind.i64.wrap (x.fst.get (Int.toNat x.snd.At)).K) x.snd.Phase x.snd.Ring x.snd.Status x.snd.AG x.snd.Af x.snd.Seen))
 (.ite (BR (x.fst.get (Int.toNat x.snd.At)).Op 15)
 (.need (Az (x.fst.get (Int.toNat x.snd.At)).B 8) <|
 (.need (Az (x.fst.get (Int.toNat x.snd.At)).C 8) <|
 (.call con_fr ((x.fst.get (Int.toNat x.snd.At)).Op, ((x.snd.Af (Int.toNat (x.fst.get (Int.toNat x.snd.At)).B)), (x.snd.Af (Int.toNat (x.fst.get (Int.toNat x.snd.At)).C)))) fun (y1 : R_fr) =>
 (.need (Az (x.fst.get (Int.toNat x.snd.At)).A 8) <|
 (.ret (TTh.mk (IntKind.i64.wrap (x.snd.At + 1)) x.snd.Phase x.snd.Ring x.snd.Status x.snd.AG (fun i2 => (cond (Nat.beq i2 (Int.toNat (x.fst.get (Int.toNat x.snd.At)).A)) y1.fst (x.snd.Af i2))) x.snd.Seen))))))
 (.ret (TTh.mk (IntKind.i64.wrap (x.snd.At + 1)) x.snd.Phase x.snd.Ring x.snd.Status x.snd.AG x.snd.Af x.snd.Seen)))))
 (.ite (BR (x.fst.get (Int.toNat x.snd.At)).Op 15)
 (.need (Az (x.fst.get (Int.toNat x.snd.At)).B 8) <|
 (.need (Az (x.fst.get (Int.toNat x.snd.At)).C 8) <|
 (.call con_fr ((x.fst.get (Int.toNat x.snd.At)).Op, ((x.snd.Af (Int.toNat (x.fst.get (Int.toNat x.snd.At)).B)), (x.snd.Af (Int.toNat (x.fst.get (Int.toNat x.snd.At)).C)))) fun (y1 : R_fr) =>
 (.need (Az (x.fst.get (Int.toNat x.snd.At)).A 8) <|
 (.ret (TTh.mk (IntKind.i64.wrap (x.snd.At + 1)) x.snd.Phase x.snd.Ring x.snd.Status x.snd.AG (fun i2 => (cond (Nat.beq i2 (Int.toNat (x.fst.get (Int.toNat x.snd.At)).A)) y1.fst (x.snd.Af i2))) x.snd.Seen))))))
 (.ret (TTh.mk (IntKind.i64.wrap (x.snd.At + 1)) x.snd.Phase x.snd.Ring x.snd.Status x.snd.AG x.snd.Af x.snd.Seen)))))))))
theorem sd_f3x (x : X_f3x) : (tt_f3x x).AH :=
 (TT.sN (TT.sI (TT.sN TT.sR) (TT.sI (TT.sN (TT.sN TT.sR)) (TT.sI TT.sR (TT.sI (TT.sN (TT.sI TT.sR (TT.sI (TT.sN (TT.sI TT.sR (TT.sI (TT.sN (TT.sN (TT.sC fun _ => (TT.sN TT.sR)))) TT.sR))) (TT.sI (TT.sN (TT.sN (TT.sC fun _ => (TT.sN TT.sR)))) TT.sR)))) (TT.sI (TT.sN (TT.sI TT.sR (TT.sI (TT.sN (TT.sN (TT.sC fun _ => (TT.sN TT.sR)))) TT.sR))) (TT.sI (TT.sN (TT.sN (TT.sC fun _ => (TT.sN TT.sR)))) TT.sR)))))))
def D_f3x : AU X_f3x R_f3x := .of tt_f3x
def con_f3x : A3 Tryz.prog :=
 BS 157 J_f3x S_f3x D_f3x 2 0 [hsl_TIn, sh_TTh] (lk mxk lbn sd_f3x)
structure TA6 where
 Kind : Int
 Ring : Int
 Mode : Int
 Reader : Int
 AG : Int
 Value : Int
def d_TA6 (v : V) : TA6 :=
 ⟨dI (fd v 0), dI (fd v 1), dI (fd v 2), dI (fd v 3), dI (fd v 4), dI (fd v 5)⟩
def e_TA6 (x : TA6) : V :=
 V.cons ((V.int .i64) x.Kind) (V.cons ((V.int .i64) x.Ring) (V.cons ((V.int .i64) x.Mode) (V.cons ((V.int .i64) x.Reader) (V.cons ((V.int .u64) x.AG) (V.cons ((V.int .u64) x.Value) (V.unit))))))
theorem nu_e_TA6 (x : TA6) : (e_TA6 x).CU := ⟨trivial, trivial, trivial, trivial, trivial, trivial, trivial⟩
abbrev X_fj : Type := (Sl TIn) × TTh
abbrev R_fj : Type := TTh × TA6
def J_fj : A8 Tryz.prog :=
 BD Tryz.prog Tryz.f122 138 [(21, 1), (39, 1), (77, 1)] [] [] [] [sh_TTh, .any] [] [con_f3x] R_fj [] fun y => [V.B9 (V.cons (e_TTh y.1) (V.cons (e_TA6 y.2) (V.unit)))]
def S_fj : AM :=
 Ae Tryz.f122 2 0 X_fj (fun x => [esl_TIn x.1, e_TTh x.2]) fun l => (dsl_TIn (at_ l 0), d_TTh (at_ l 1))
structure X_fj_8 where
 Bf : (Sl TIn)
 C1 : Int
 A0 : TTh
 Bq : TTh
 A7 : TA6
def S_fj_8 : AM :=
 Ad Tryz.f122 8 [(0, hsl_TIn), (3, .any), (4, .any), (5, .any), (6, .any)] [] [(.loc 3 0, sh_TTh), (.loc 4 0, sh_TTh), (.loc 5 0, .any)] X_fj_8 (fun x => [esl_TIn x.Bf, (V.ptr (.loc 3 0) []), (V.ptr (.loc 4 0) []), (V.ptr (.loc 5 0) []), (V.int .i64) x.C1, e_TTh x.A0, e_TTh x.Bq, e_TA6 x.A7]) fun l => ⟨dsl_TIn (at_ l 0), dI (at_ l 4), d_TTh (at_ l 5), d_TTh (at_ l 6), d_TA6 (at_ l 7)⟩
structure X_fj_10 where
 Bf : (Sl TIn)
 C1 : Int
 A0 : TTh
 Bq : TTh
 A7 : TA6
def S_fj_10 : AM :=
 Ad Tryz.f122 10 [(0, hsl_TIn), (3, .any), (4, .any), (5, .any), (6, .any)] [] [(.loc 3 0, sh_TTh), (.loc 4 0, sh_TTh), (.loc 5 0, .any)] X_fj_10 (fun x => [esl_TIn x.Bf, (V.ptr (.loc 3 0) []), (V.ptr (.loc 4 0) []), (V.ptr (.loc 5 0) []), (V.int .i64) x.C1, e_TTh x.A0, e_TTh x.Bq, e_TA6 x.A7]) fun l => ⟨dsl_TIn (at_ l 0), dI (at_ l 4), d_TTh (at_ l 5), d_TTh (at_ l 6), d_TA6 (at_ l 7)⟩
structure X_fj_11 where
 Bf : (Sl TIn)
 A0 : TTh
 Bq : TTh
 A7 : TA6
def S_fj_11 : AM :=
 Ad Tryz.f122 11 [(0, hsl_TIn), (3, .any), (4, .any), (5, .any)] [] [(.loc 3 0, sh_TTh), (.loc 4 0, sh_TTh), (.loc 5 0, .any)] X_fj_11 (fun x => [esl_TIn x.Bf, (V.ptr (.loc 3 0) []), (V.ptr (.loc 4 0) []), (V.ptr (.loc 5 0) []), e_TTh x.A0, e_TTh x.Bq, e_TA6 x.A7]) fun l => ⟨dsl_TIn (at_ l 0), d_TTh (at_ l 4), d_TTh (at_ l 5), d_TA6 (at_ l 6)⟩
def tt_fj_11 (x : X_fj_11) : TT Tryz.prog R_fj :=
 (.ite (AX x.A0.At ((x.Bf.n : Nat) : Int))
 (.ret (x.A0, (TA6.mk 8 0 0 0 0 0)))
 (.need (Az x.A0.At x.Bf.n) <|
 (.ite (AX (x.Bf.get (Int.toNat x.A0.At)).Op 18)
 (.need (Az (x.Bf.get (Int.toNat x.A0.At)).A 8) <|
 (.ret (x.A0, (TA6.mk 1 (x.Bf.get (Int.toNat x.A0.At)).C (x.Bf.get (Int.toNat x.A0.At)).D 0 0 (x.A0.Af (Int.toNat (x.Bf.get (Int.toNat x.A0.At)).A))))))
 (.ite (AX (x.Bf.get (Int.toNat x.A0.At)).Op 19)
 (.ret (x.A0, (TA6.mk 2 (x.Bf.get (Int.toNat x.A0.At)).C (x.Bf.get (Int.toNat x.A0.At)).D (IntKind.i64.wrap (x.Bf.get (Int.toNat x.A0.At)).K) 0 0)))
 (.ite (AX (x.Bf.get (Int.toNat x.A0.At)).Op 20)
 (.ret (x.A0, (TA6.mk 3 (x.Bf.get (Int.toNat x.A0.At)).C 0 0 0 0)))
 (.ite (AX (x.Bf.get (Int.toNat x.A0.At)).Op 21)
 (.ret (x.A0, (TA6.mk (IntKind.i64.wrap ((x.Bf.get (Int.toNat x.A0.At)).Op - 17)) 0 0 0 0 0)))
 (.ite (AX (x.Bf.get (Int.toNat x.A0.At)).Op 22)
 (.ret (x.A0, (TA6.mk (IntKind.i64.wrap ((x.Bf.get (Int.toNat x.A0.At)).Op - 17)) 0 0 0 0 0)))
 (.ite (AX (x.Bf.get (Int.toNat x.A0.At)).Op 23)
 (.ret (x.A0, (TA6.mk (IntKind.i64.wrap ((x.Bf.get (Int.toNat x.A0.At)).Op - 17)) 0 0 0 0 0)))
 (.ite (AX (x.Bf.get (Int.toNat x.A0.At)).Op 24)
 (.need (Az (x.Bf.get (Int.toNat x.A0.At)).A 8) <|
 (.ret (x.A0, (TA6.mk 7 0 0 0 0 (x.A0.Af (Int.toNat (x.Bf.get (Int.toNat x.A0.At)).A))))))
 (.ite (AX (x.Bf.get (Int.toNat x.A0.At)).Op 25)
 (.ret (x.A0, (TA6.mk 8 0 0 0 0 0)))
 (.ret (x.A0, (TA6.mk 9 0 0 0 0 0)))))))))))))
theorem sd_fj_11 (x : X_fj_11) : (tt_fj_11 x).AH :=
 (TT.sI TT.sR (TT.sN (TT.sI (TT.sN TT.sR) (TT.sI TT.sR (TT.sI TT.sR (TT.sI TT.sR (TT.sI TT.sR (TT.sI TT.sR (TT.sI (TT.sN TT.sR) (TT.sI TT.sR TT.sR))))))))))
def D_fj_11 : AU X_fj_11 R_fj := .of tt_fj_11
theorem ok_fj_11 : AW J_fj S_fj_11 D_fj_11 :=
 lk mxk lbn sd_fj_11
def tt_fj_10 (D_fj_8 : AU X_fj_8 R_fj) (x : X_fj_10) : TT Tryz.prog R_fj :=
 (.call con_f3x (x.Bf, x.A0) fun (y2 : R_f3x) =>
 (.jump S_fj_8 D_fj_8 (X_fj_8.mk x.Bf (IntKind.i64.wrap (x.C1 + 1)) y2 x.Bq x.A7)))
theorem sd_fj_10 (D_fj_8 : AU X_fj_8 R_fj) (x : X_fj_10) : (tt_fj_10 D_fj_8 x).AH :=
 (TT.sC fun _ => TT.sJ)
def D_fj_10 (D_fj_8 : AU X_fj_8 R_fj) : AU X_fj_10 R_fj := .of (tt_fj_10 D_fj_8)
theorem ok_fj_10 (D_fj_8 : AU X_fj_8 R_fj) (h_8 : AW J_fj S_fj_8 D_fj_8) : AW J_fj S_fj_10 (D_fj_10 D_fj_8) :=
 lk mxk (lbc h_8 rfl (lbc ok_fj_11 rfl lbn)) (sd_fj_10 D_fj_8)
def tt_fj_8 (D_fj_8 : AU X_fj_8 R_fj) (x : X_fj_8) : TT Tryz.prog R_fj :=
 (.ite (BR x.C1 256)
 (.ite (BR x.A0.At ((x.Bf.n : Nat) : Int))
 (.need (Az x.A0.At x.Bf.n) <|
 (.ite (BW (x.Bf.get (Int.toNat x.A0.At)).Op 17)
 (.jump S_fj_10 (D_fj_10 D_fj_8) (X_fj_10.mk x.Bf x.C1 x.A0 x.Bq x.A7))
 (.jump S_fj_11 D_fj_11 (X_fj_11.mk x.Bf x.A0 x.Bq x.A7))))
 (.jump S_fj_11 D_fj_11 (X_fj_11.mk x.Bf x.A0 x.Bq x.A7)))
 (.jump S_fj_11 D_fj_11 (X_fj_11.mk x.Bf x.A0 x.Bq x.A7)))
theorem sd_fj_8 (D_fj_8 : AU X_fj_8 R_fj) (x : X_fj_8) : (tt_fj_8 D_fj_8 x).AH :=
 (TT.sI (TT.sI (TT.sN (TT.sI TT.sJ TT.sJ)) TT.sJ) TT.sJ)
def D_fj_8 : AU X_fj_8 R_fj := AU.loop tt_fj_8
theorem ok_fj_8 : AW J_fj S_fj_8 D_fj_8 :=
 A2 fun D_fj_8 h_8 => lk mxk (lbc h_8 rfl (lbc ok_fj_11 rfl (lbc (ok_fj_10 D_fj_8 h_8) rfl lbn))) (sd_fj_8 D_fj_8)
def tt_fj (x : X_fj) : TT Tryz.prog R_fj :=
 (.ite (!(AX x.snd.Status 0))
 (.ret (x.snd, (TA6.mk 0 0 0 0 0 0)))
 (.ite (AX x.snd.Phase 1)
 (.need (Az x.snd.At x.fst.n) <|
 (.need (Az (x.fst.get (Int.toNat x.snd.At)).A 8) <|
 (.ret (x.snd, (TA6.mk 10 x.snd.Ring 0 0 x.snd.AG (x.snd.Af (Int.toNat (x.fst.get (Int.toNat x.snd.At)).A)))))))
 (.ite (AX x.snd.Phase 2)
 (.need (Az x.snd.At x.fst.n) <|
 (.ret (x.snd, (TA6.mk 11 x.snd.Ring 0 (IntKind.i64.wrap (x.fst.get (Int.toNat x.snd.At)).K) x.snd.AG 0))))
 (.jump S_fj_8 D_fj_8 (X_fj_8.mk x.fst 0 x.snd (TTh.mk 0 0 0 0 0 (fun _i1 => (0 : Int)) (Sl.mk true 0 (fun _i1 => (0 : Int)))) (TA6.mk 0 0 0 0 0 0))))))
theorem sd_fj (x : X_fj) : (tt_fj x).AH :=
 (TT.sI TT.sR (TT.sI (TT.sN (TT.sN TT.sR)) (TT.sI (TT.sN TT.sR) TT.sJ)))
def D_fj : AU X_fj R_fj := .of tt_fj
def con_fj : A3 Tryz.prog :=
 BS 122 J_fj S_fj D_fj 2 0 [hsl_TIn, sh_TTh] (lk mxk (lbc ok_fj_11 rfl (lbc ok_fj_8 rfl lbn)) sd_fj)
abbrev X_f4a : Type := TPg × TSt × Int
abbrev R_f4a : Type := TA6
def J_f4a : A8 Tryz.prog :=
 BD Tryz.prog Tryz.f77 24 [(3, 3), (4, 3), (9, 1)] [] [] [] [.any] [] [con_fj] R_f4a [] fun y => [e_TA6 y]
def S_f4a : AM :=
 Ae Tryz.f77 3 0 X_f4a (fun x => [e_TPg x.1, e_TSt x.2.1, (V.int .i64) x.2.2]) fun l => (d_TPg (at_ l 0), d_TSt (at_ l 1), dI (at_ l 2))
def tt_f4a (x : X_f4a) : TT Tryz.prog R_f4a :=
 (.need (Az x.snd.snd x.fst.AB.n) <|
 (.need (Az x.snd.snd x.snd.fst.AB.n) <|
 (.call con_fj ((x.fst.AB.get (Int.toNat x.snd.snd)), (x.snd.fst.AB.get (Int.toNat x.snd.snd))) fun (y1 : R_fj) =>
 (.ret y1.snd))))
theorem sd_f4a (x : X_f4a) : (tt_f4a x).AH :=
 (TT.sN (TT.sN (TT.sC fun _ => TT.sR)))
def D_f4a : AU X_f4a R_f4a := .of tt_f4a
def con_f4a : A3 Tryz.prog :=
 BS 77 J_f4a S_f4a D_f4a 3 0 [sh_TPg, sh_TSt, .any] (lk mxk lbn sd_f4a)
abbrev X_f2r : Type := TA6 × TEv
abbrev R_f2r : Type := Bool
def J_f2r : A8 Tryz.prog :=
 BD Tryz.prog Tryz.f119 166 [(2, 3), (3, 3)] [] [] [] [.any] [] [] R_f2r [] fun y => [V.bool y]
def S_f2r : AM :=
 Ae Tryz.f119 2 0 X_f2r (fun x => [e_TA6 x.1, e_TEv x.2]) fun l => (d_TA6 (at_ l 0), d_TEv (at_ l 1))
structure X_f2r_2 where
 Ew : TA6
 DB : TEv
 O0 : Bool
def S_f2r_2 : AM :=
 Ad Tryz.f119 2 (an [2, 3, 5]) [] [] X_f2r_2 (fun x => [(C2 e_TA6) x.Ew, (C2 e_TEv) x.DB, V.bool x.O0]) fun l => ⟨(C3 d_TA6) (at_ l 0), (C3 d_TEv) (at_ l 1), dB (at_ l 2)⟩
def tt_f2r_2 (x : X_f2r_2) : TT Tryz.prog R_f2r :=
 (.ite (AX x.DB.Kind 1)
 (.ite (AX x.Ew.Kind 1)
 (.ret (AX x.Ew.Ring x.DB.Ring))
 (.ret false))
 (.ite (AX x.DB.Kind 2)
 (.ite (AX x.Ew.Kind 10)
 (.ite (AX x.Ew.Ring x.DB.Ring)
 (.ret (AX x.Ew.AG x.DB.AG))
 (.ret false))
 (.ret false))
 (.ite (AX x.DB.Kind 3)
 (.ite (AX x.Ew.Kind 2)
 (.ret (AX x.Ew.Ring x.DB.Ring))
 (.ret false))
 (.ite (AX x.DB.Kind 4)
 (.ite (AX x.Ew.Kind 11)
 (.ite (AX x.Ew.Ring x.DB.Ring)
 (.ret (AX x.Ew.AG x.DB.AG))
 (.ret false))
 (.ret false))
 (.ite (AX x.DB.Kind 5)
 (.ite x.O0
 (.ite (AX x.Ew.Mode 0)
 (.ret (AX x.Ew.Ring x.DB.Ring))
 (.ret false))
 (.ret false))
 (.ite (AX x.DB.Kind 6)
 (.ite x.O0
 (.ret (AX x.Ew.Ring x.DB.Ring))
 (.ret false))
 (.ite (AX x.DB.Kind 7)
 (.ite x.O0
 (.ite (AX x.Ew.Mode 2)
 (.ret (AX x.Ew.Ring x.DB.Ring))
 (.ret false))
 (.ret false))
 (.ite (AX x.DB.Kind 8)
 (.ret (AX x.Ew.Kind 4))
 (.ite (AX x.DB.Kind 9)
 (.ret (AX x.Ew.Kind 5))
 (.ite (AX x.DB.Kind 10)
 (.ret (AX x.Ew.Kind 6))
 (.ite (AX x.DB.Kind 11)
 (.ret (AX x.Ew.Kind 6))
 (.ite (AX x.DB.Kind 12)
 (.ite (AX x.Ew.Kind 7)
 (.ret (AX x.Ew.Value x.DB.Value))
 (.ret false))
 (.ite (AX x.DB.Kind 13)
 (.ite (AX x.Ew.Kind 3)
 (.ret (AX x.Ew.Ring x.DB.Ring))
 (.ret false))
 (.ite (AX x.DB.Kind 14)
 (.ret (AX x.Ew.Kind 8))
 (.ret (AX x.Ew.Kind 9))))))))))))))))
theorem sd_f2r_2 (x : X_f2r_2) : (tt_f2r_2 x).AH :=
 (TT.sI (TT.sI TT.sR TT.sR) (TT.sI (TT.sI (TT.sI TT.sR TT.sR) TT.sR) (TT.sI (TT.sI TT.sR TT.sR) (TT.sI (TT.sI (TT.sI TT.sR TT.sR) TT.sR) (TT.sI (TT.sI (TT.sI TT.sR TT.sR) TT.sR) (TT.sI (TT.sI TT.sR TT.sR) (TT.sI (TT.sI (TT.sI TT.sR TT.sR) TT.sR) (TT.sI TT.sR (TT.sI TT.sR (TT.sI TT.sR (TT.sI TT.sR (TT.sI (TT.sI TT.sR TT.sR) (TT.sI (TT.sI TT.sR TT.sR) (TT.sI TT.sR TT.sR))))))))))))))
def D_f2r_2 : AU X_f2r_2 R_f2r := .of tt_f2r_2
theorem ok_f2r_2 : AW J_f2r S_f2r_2 D_f2r_2 :=
 lk mxk lbn sd_f2r_2
def tt_f2r (x : X_f2r) : TT Tryz.prog R_f2r :=
 (.ite (AX x.fst.Kind 1)
 (.jump S_f2r_2 D_f2r_2 (X_f2r_2.mk x.fst x.snd true))
 (.jump S_f2r_2 D_f2r_2 (X_f2r_2.mk x.fst x.snd (AX x.fst.Kind 2))))
theorem sd_f2r (x : X_f2r) : (tt_f2r x).AH :=
 (TT.sI TT.sJ TT.sJ)
def D_f2r : AU X_f2r R_f2r := .of tt_f2r
def con_f2r : A3 Tryz.prog :=
 BS 119 J_f2r S_f2r D_f2r 2 0 [.any, .any] (lk mxk (lbc ok_f2r_2 rfl lbn) sd_f2r)
abbrev X_f3y : Type := TPg × TSt × TEv
abbrev R_f3y : Type := Int
def J_f3y : A8 Tryz.prog :=
 BD Tryz.prog Tryz.f74 31 [(3, 3), (4, 3), (5, 3)] [] [] [] [.any] [] [con_f2i, con_f2r, con_f4a] R_f3y [] fun y => [(V.int .i64) y]
def S_f3y : AM :=
 Ae Tryz.f74 3 0 X_f3y (fun x => [e_TPg x.1, e_TSt x.2.1, e_TEv x.2.2]) fun l => (d_TPg (at_ l 0), d_TSt (at_ l 1), d_TEv (at_ l 2))
def tt_f3y (x : X_f3y) : TT Tryz.prog R_f3y :=
 (.call con_f2i x.snd.snd fun (y1 : R_f2i) =>
 (.ite (!y1)
 (.ret 3)
 (.ite (BW ((x.snd.fst.AB.n : Nat) : Int) x.snd.snd.Thread)
 (.ret 5)
 (.call con_f4a (x.fst, (x.snd.fst, x.snd.snd.Thread)) fun (y2 : R_f4a) =>
 (.ite (AX y2.Kind 0)
 (.ret 11)
 (.call con_f2r (y2, x.snd.snd) fun (y3 : R_f2r) =>
 (.ite (!y3)
 (.ret 11)
 (.ret 0))))))))
theorem sd_f3y (x : X_f3y) : (tt_f3y x).AH :=
 (TT.sC fun _ => (TT.sI TT.sR (TT.sI TT.sR (TT.sC fun _ => (TT.sI TT.sR (TT.sC fun _ => (TT.sI TT.sR TT.sR)))))))
def D_f3y : AU X_f3y R_f3y := .of tt_f3y
def con_f3y : A3 Tryz.prog :=
 BS 74 J_f3y S_f3y D_f3y 3 0 [sh_TPg, sh_TSt, .any] (lk mxk lbn sd_f3y)
abbrev X_f4h : Type := TRg × TRs
abbrev R_f4h : Type := TR3
def J_f4h : A8 Tryz.prog :=
 BD Tryz.prog Tryz.f158 24 [(2, 3), (3, 3)] [] [] [] [sh_TR3] [] [] R_f4h [] fun y => [e_TR3 y]
def S_f4h : AM :=
 Ae Tryz.f158 2 0 X_f4h (fun x => [e_TRg x.1, e_TRs x.2]) fun l => (d_TRg (at_ l 0), d_TRs (at_ l 1))
def tt_f4h (x : X_f4h) : TT Tryz.prog R_f4h :=
 (.need (true && (room ((0 : Nat) + x.snd.AY.n) 8)) <|
 (.need (true && (room ((0 : Nat) + x.snd.Am.n) 24)) <|
 (.ret (TR3.mk (IntKind.u64.wrap x.fst.Cf) x.snd.Au (Sl.mk (cond (Nat.beq x.snd.AY.n 0) false false) ((0 : Nat) + x.snd.AY.n) (fun i1 => (cond (Nat.blt i1 0) (0 : Int) (x.snd.AY.get (i1 - 0))))) x.snd.Aw (TR2.mk (Sl.mk (cond (Nat.beq x.snd.Am.n 0) false false) ((0 : Nat) + x.snd.Am.n) (fun i1 => (TSo.mk (cond (Nat.blt i1 0) (0 : Int) (x.snd.Am.get (i1 - 0)).AO) (cond (Nat.blt i1 0) (0 : Int) (x.snd.Am.get (i1 - 0)).Value) (cond (Nat.blt i1 0) (0 : Int) (x.snd.Am.get (i1 - 0)).Left)))) x.fst.AQ)))))
theorem sd_f4h (x : X_f4h) : (tt_f4h x).AH :=
 (TT.sN (TT.sN TT.sR))
def D_f4h : AU X_f4h R_f4h := .of tt_f4h
def con_f4h : A3 Tryz.prog :=
 BS 158 J_f4h S_f4h D_f4h 2 0 [.any, sh_TRs] (lk mxk lbn sd_f4h)
abbrev X_f3r : Type := TPg × TSt × Int
abbrev R_f3r : Type := TR3
def J_f3r : A8 Tryz.prog :=
 BD Tryz.prog Tryz.f123 18 [(3, 3), (4, 3)] [] [] [] [sh_TR3] [] [con_f4h] R_f3r [] fun y => [e_TR3 y]
def S_f3r : AM :=
 Ae Tryz.f123 3 0 X_f3r (fun x => [e_TPg x.1, e_TSt x.2.1, (V.int .i64) x.2.2]) fun l => (d_TPg (at_ l 0), d_TSt (at_ l 1), dI (at_ l 2))
def tt_f3r (x : X_f3r) : TT Tryz.prog R_f3r :=
 (.need (Az x.snd.snd x.fst.AJ.n) <|
 (.need (Az x.snd.snd x.snd.fst.AJ.n) <|
 (.call con_f4h ((x.fst.AJ.get (Int.toNat x.snd.snd)), (x.snd.fst.AJ.get (Int.toNat x.snd.snd))) fun (y1 : R_f4h) =>
 (.ret y1))))
theorem sd_f3r (x : X_f3r) : (tt_f3r x).AH :=
 (TT.sN (TT.sN (TT.sC fun _ => TT.sR)))
def D_f3r : AU X_f3r R_f3r := .of tt_f3r
def con_f3r : A3 Tryz.prog :=
 BS 123 J_f3r S_f3r D_f3r 3 0 [sh_TPg, sh_TSt, .any] (lk mxk lbn sd_f3r)
abbrev X_fq : Type := (Sl Int)
abbrev R_fq : Type := Int
def J_fq : A8 Tryz.prog :=
 BD Tryz.prog Tryz.f184 25 [] [] [] [] [.any] [] [] R_fq [] fun y => [(V.int .u64) y]
def S_fq : AM :=
 Ae Tryz.f184 1 0 X_fq (fun x => [EC x]) fun l => (E5 (at_ l 0))
structure X_fq_3 where
 Bf : (Sl Int)
 P7 : Int
 DH : Int
def S_fq_3 : AM :=
 Ad Tryz.f184 3 [(0, EW), (3, .any), (4, .any)] [] [] X_fq_3 (fun x => [EC x.Bf, (V.int .u64) x.P7, (V.int .i64) x.DH]) fun l => ⟨E5 (at_ l 0), dI (at_ l 1), dI (at_ l 2)⟩
structure X_fq_4 where
 Bf : (Sl Int)
 P7 : Int
 DH : Int
def S_fq_4 : AM :=
 Ad Tryz.f184 4 [(0, EW), (3, .any), (4, .any)] [] [] X_fq_4 (fun x => [EC x.Bf, (V.int .u64) x.P7, (V.int .i64) x.DH]) fun l => ⟨E5 (at_ l 0), dI (at_ l 1), dI (at_ l 2)⟩
def tt_fq_4 (D_fq_3 : AU X_fq_3 R_fq) (x : X_fq_4) : TT Tryz.prog R_fq :=
 (.jump S_fq_3 D_fq_3 (X_fq_3.mk x.Bf x.P7 (IntKind.i64.wrap (x.DH + 1))))
theorem sd_fq_4 (D_fq_3 : AU X_fq_3 R_fq) (x : X_fq_4) : (tt_fq_4 D_fq_3 x).AH :=
 TT.sJ
def D_fq_4 (D_fq_3 : AU X_fq_3 R_fq) : AU X_fq_4 R_fq := .of (tt_fq_4 D_fq_3)
theorem ok_fq_4 (D_fq_3 : AU X_fq_3 R_fq) (h_3 : AW J_fq S_fq_3 D_fq_3) : AW J_fq S_fq_4 (D_fq_4 D_fq_3) :=
 lk mxk (lbc h_3 rfl lbn) (sd_fq_4 D_fq_3)
def tt_fq_3 (D_fq_3 : AU X_fq_3 R_fq) (x : X_fq_3) : TT Tryz.prog R_fq :=
 (.ite (BR x.DH ((x.Bf.n : Nat) : Int))
 (.need (Az x.DH x.Bf.n) <|
 (.ite (BR (x.Bf.get (Int.toNat x.DH)) x.P7)
 (.need (Az x.DH x.Bf.n) <|
 (.jump S_fq_4 (D_fq_4 D_fq_3) (X_fq_4.mk x.Bf (x.Bf.get (Int.toNat x.DH)) x.DH)))
 (.jump S_fq_4 (D_fq_4 D_fq_3) (X_fq_4.mk x.Bf x.P7 x.DH))))
 (.ret x.P7))
theorem sd_fq_3 (D_fq_3 : AU X_fq_3 R_fq) (x : X_fq_3) : (tt_fq_3 D_fq_3 x).AH :=
 (TT.sI (TT.sN (TT.sI (TT.sN TT.sJ) TT.sJ)) TT.sR)
def D_fq_3 : AU X_fq_3 R_fq := AU.loop tt_fq_3
theorem ok_fq_3 : AW J_fq S_fq_3 D_fq_3 :=
 A2 fun D_fq_3 h_3 => lk mxk (lbc h_3 rfl (lbc (ok_fq_4 D_fq_3 h_3) rfl lbn)) (sd_fq_3 D_fq_3)
def tt_fq (x : X_fq) : TT Tryz.prog R_fq :=
 (.need (Az 0 x.n) <|
 (.jump S_fq_3 D_fq_3 (X_fq_3.mk x (x.get (Int.toNat 0)) 0)))
theorem sd_fq (x : X_fq) : (tt_fq x).AH :=
 (TT.sN TT.sJ)
def D_fq : AU X_fq R_fq := .of tt_fq
def con_fq : A3 Tryz.prog :=
 BS 184 J_fq S_fq D_fq 1 0 [EW] (lk mxk (lbc ok_fq_3 rfl lbn) sd_fq)
abbrev X_f3v : Type := TR3
abbrev R_f3v : Type := Bool
def J_f3v : A8 Tryz.prog :=
 BD Tryz.prog Tryz.f155 12 [(1, 3)] [] [] [] [.any] [] [con_fq] R_f3v [] fun y => [V.bool y]
def S_f3v : AM :=
 Ae Tryz.f155 1 0 X_f3v (fun x => [e_TR3 x]) fun l => (d_TR3 (at_ l 0))
def tt_f3v (x : X_f3v) : TT Tryz.prog R_f3v :=
 (.call con_fq x.AY fun (y1 : R_fq) =>
 (.ret (BW x.Cf (IntKind.u64.wrap (x.Au - y1)))))
theorem sd_f3v (x : X_f3v) : (tt_f3v x).AH :=
 (TT.sC fun _ => TT.sR)
def D_f3v : AU X_f3v R_f3v := .of tt_f3v
def con_f3v : A3 Tryz.prog :=
 BS 155 J_f3v S_f3v D_f3v 1 0 [sh_TR3] (lk mxk lbn sd_f3v)
abbrev X_f2c : Type := Int
abbrev R_f2c : Type := Int
def J_f2c : A8 Tryz.prog :=
 BD Tryz.prog Tryz.f187 14 [] [] [] [] [.any] [] [] R_f2c [] fun y => [(V.int .i64) y]
def S_f2c : AM :=
 Ae Tryz.f187 1 0 X_f2c (fun x => [(V.int .i64) x]) fun l => (dI (at_ l 0))
structure X_f2c_3 where
 IJ : Int
 P7 : Int
 DH : Int
def S_f2c_3 : AM :=
 Ad Tryz.f187 3 (an [0, 3, 4]) [] [] X_f2c_3 (fun x => [(V.int .i64) x.IJ, (V.int .i64) x.P7, (V.int .i64) x.DH]) fun l => ⟨dI (at_ l 0), dI (at_ l 1), dI (at_ l 2)⟩
def tt_f2c_3 (D_f2c_3 : AU X_f2c_3 R_f2c) (x : X_f2c_3) : TT Tryz.prog R_f2c :=
 (.ite (BR x.DH x.IJ)
 (.jump S_f2c_3 D_f2c_3 (X_f2c_3.mk x.IJ (IntKind.i64.wrap ((2 : Int) * x.P7)) (IntKind.i64.wrap (x.DH + 1))))
 (.ret (IntKind.i64.wrap (x.P7 - 1))))
theorem sd_f2c_3 (D_f2c_3 : AU X_f2c_3 R_f2c) (x : X_f2c_3) : (tt_f2c_3 D_f2c_3 x).AH :=
 (TT.sI TT.sJ TT.sR)
def D_f2c_3 : AU X_f2c_3 R_f2c := AU.loop tt_f2c_3
theorem ok_f2c_3 : AW J_f2c S_f2c_3 D_f2c_3 :=
 A2 fun D_f2c_3 h_3 => lk mxk (lbc h_3 rfl lbn) (sd_f2c_3 D_f2c_3)
def tt_f2c (x : X_f2c) : TT Tryz.prog R_f2c :=
 (.jump S_f2c_3 D_f2c_3 (X_f2c_3.mk x 1 0))
theorem sd_f2c (x : X_f2c) : (tt_f2c x).AH :=
 TT.sJ
def D_f2c : AU X_f2c R_f2c := .of tt_f2c
def con_f2c : A3 Tryz.prog :=
 BS 187 J_f2c S_f2c D_f2c 1 0 [.any] (lk mxk (lbc ok_f2c_3 rfl lbn) sd_f2c)
abbrev X_f3z : Type := TR2 × Int × TSo
abbrev R_f3z : Type := TR2
def J_f3z : A8 Tryz.prog :=
 BD Tryz.prog Tryz.f186 18 [(5, 3), (7, 1)] [(3, [.close (.loc 13 0), .Tt (.loc 3 0) [.CC 0 0]])] [] [.close (.loc 13 0)] [sh_TR2] [] [] R_f3z [] fun y => [e_TR2 y]
def S_f3z : AM :=
 Ae Tryz.f186 3 0 X_f3z (fun x => [e_TR2 x.1, (V.int .i64) x.2.1, e_TSo x.2.2]) fun l => (d_TR2 (at_ l 0), dI (at_ l 1), d_TSo (at_ l 2))
def tt_f3z (x : X_f3z) : TT Tryz.prog R_f3z :=
 (.need (true && (room ((0 : Nat) + x.fst.L.n) 24)) <|
 (.need (Az x.snd.fst ((0 : Nat) + x.fst.L.n)) <|
 (.need ((Nat.beq ((0 : Nat) + x.fst.L.n) ((0 : Nat) + x.fst.L.n)) && true) <|
 (.need ((true && true) && (Nat.beq ((0 : Nat) + x.fst.L.n) ((0 : Nat) + x.fst.L.n))) <|
 (.side (∀ i1 : Nat, ((i1 < ((0 : Nat) + x.fst.L.n)) → ((true && (true && (true && true))) = true))) <|
 (.ret (TR2.mk (Sl.mk (cond (Nat.beq x.fst.L.n 0) false false) ((0 : Nat) + x.fst.L.n) (fun i1 => (TSo.mk (cond (Nat.beq i1 ((0 : Nat) + (Int.toNat x.snd.fst))) x.snd.snd.AO (cond (Nat.blt i1 0) (0 : Int) (x.fst.L.get (i1 - 0)).AO)) (cond (Nat.beq i1 ((0 : Nat) + (Int.toNat x.snd.fst))) x.snd.snd.Value (cond (Nat.blt i1 0) (0 : Int) (x.fst.L.get (i1 - 0)).Value)) (cond (Nat.beq i1 ((0 : Nat) + (Int.toNat x.snd.fst))) x.snd.snd.Left (cond (Nat.blt i1 0) (0 : Int) (x.fst.L.get (i1 - 0)).Left))))) x.fst.AQ)))))))
theorem sd_f3z (x : X_f3z) : (tt_f3z x).AH :=
 (TT.sN (TT.sN (TT.sN (TT.sN (TT.sS (fun _ _ => rfl) TT.sR)))))
def D_f3z : AU X_f3z R_f3z := .of tt_f3z
def con_f3z : A3 Tryz.prog :=
 BS 186 J_f3z S_f3z D_f3z 3 0 [sh_TR2, .any, .any] (lk mxk lbn sd_f3z)
abbrev X_f4d : Type := TR2 × Int × Int
abbrev R_f4d : Type := Int × TR2
def J_f4d : A8 Tryz.prog :=
 BD Tryz.prog Tryz.f159 50 [(3, 3)] [] [] [] [.any, sh_TR2] [] [con_f2c, con_f3z] R_f4d [] fun y => [V.B9 (V.cons ((V.int .i64) y.1) (V.cons (e_TR2 y.2) (V.unit)))]
def S_f4d : AM :=
 Ae Tryz.f159 3 0 X_f4d (fun x => [e_TR2 x.1, (V.int .u64) x.2.1, (V.int .u64) x.2.2]) fun l => (d_TR2 (at_ l 0), dI (at_ l 1), dI (at_ l 2))
def tt_f4d (x : X_f4d) : TT Tryz.prog R_f4d :=
 (.ite (BW 4611686018427387904 x.snd.fst)
 (.ret (1, x.fst))
 (.need (!(AX (IntKind.u64.wrap ((x.fst.L.n : Nat) : Int)) 0)) <|
 (.need (Az (IntKind.i64.wrap (Int.tmod x.snd.fst (IntKind.u64.wrap ((x.fst.L.n : Nat) : Int)))) x.fst.L.n) <|
 (.ite (BR (x.fst.L.get (Int.toNat (IntKind.i64.wrap (Int.tmod x.snd.fst (IntKind.u64.wrap ((x.fst.L.n : Nat) : Int)))))).AO (IntKind.u64.wrap ((2 : Int) * x.snd.fst)))
 (.ret (8, x.fst))
 (.need (Az (IntKind.i64.wrap (Int.tmod x.snd.fst (IntKind.u64.wrap ((x.fst.L.n : Nat) : Int)))) x.fst.L.n) <|
 (.ite (BR (IntKind.u64.wrap ((2 : Int) * x.snd.fst)) (x.fst.L.get (Int.toNat (IntKind.i64.wrap (Int.tmod x.snd.fst (IntKind.u64.wrap ((x.fst.L.n : Nat) : Int)))))).AO)
 (.ret (11, x.fst))
 (.call con_f2c x.fst.AQ fun (y1 : R_f2c) =>
 (.call con_f3z (x.fst, ((IntKind.i64.wrap (Int.tmod x.snd.fst (IntKind.u64.wrap ((x.fst.L.n : Nat) : Int)))), (TSo.mk (IntKind.u64.wrap ((IntKind.u64.wrap ((2 : Int) * x.snd.fst)) + 1)) x.snd.snd y1))) fun (y2 : R_f3z) =>
 (.ret (0, y2))))))))))
theorem sd_f4d (x : X_f4d) : (tt_f4d x).AH :=
 (TT.sI TT.sR (TT.sN (TT.sN (TT.sI TT.sR (TT.sN (TT.sI TT.sR (TT.sC fun _ => (TT.sC fun _ => TT.sR))))))))
def D_f4d : AU X_f4d R_f4d := .of tt_f4d
def con_f4d : A3 Tryz.prog :=
 BS 159 J_f4d S_f4d D_f4d 3 0 [sh_TR2, .any, .any] (lk mxk lbn sd_f4d)
abbrev X_f36 : Type := TR3 × Int × Int
abbrev R_f36 : Type := Int × TR3
def J_f36 : A8 Tryz.prog :=
 BD Tryz.prog Tryz.f124 27 [(15, 1)] [] [] [] [.any, sh_TR3] [] [con_f4d] R_f36 [] fun y => [V.B9 (V.cons ((V.int .i64) y.1) (V.cons (e_TR3 y.2) (V.unit)))]
def S_f36 : AM :=
 Ae Tryz.f124 3 0 X_f36 (fun x => [e_TR3 x.1, (V.int .u64) x.2.1, (V.int .u64) x.2.2]) fun l => (d_TR3 (at_ l 0), dI (at_ l 1), dI (at_ l 2))
def tt_f36 (x : X_f36) : TT Tryz.prog R_f36 :=
 (.ite (BW x.fst.Au x.snd.fst)
 (.ret (11, x.fst))
 (.call con_f4d (x.fst.S, x.snd) fun (y1 : R_f4d) =>
 (.ret (y1.fst, (TR3.mk x.fst.Cf x.fst.Au x.fst.AY x.fst.Aw y1.snd)))))
theorem sd_f36 (x : X_f36) : (tt_f36 x).AH :=
 (TT.sI TT.sR (TT.sC fun _ => TT.sR))
def D_f36 : AU X_f36 R_f36 := .of tt_f36
def con_f36 : A3 Tryz.prog :=
 BS 124 J_f36 S_f36 D_f36 3 0 [sh_TR3, .any, .any] (lk mxk lbn sd_f36)
abbrev X_f3q : Type := TR3 × Int
abbrev R_f3q : Type := Bool
def J_f3q : A8 Tryz.prog :=
 BD Tryz.prog Tryz.f156 13 [(2, 3)] [] [] [] [.any] [] [] R_f3q [] fun y => [V.bool y]
def S_f3q : AM :=
 Ae Tryz.f156 2 0 X_f3q (fun x => [e_TR3 x.1, (V.int .i64) x.2]) fun l => (d_TR3 (at_ l 0), dI (at_ l 1))
def tt_f3q (x : X_f3q) : TT Tryz.prog R_f3q :=
 (.need (Az x.snd x.fst.AY.n) <|
 (.ret (AX (x.fst.AY.get (Int.toNat x.snd)) x.fst.Au)))
theorem sd_f3q (x : X_f3q) : (tt_f3q x).AH :=
 (TT.sN TT.sR)
def D_f3q : AU X_f3q R_f3q := .of tt_f3q
def con_f3q : A3 Tryz.prog :=
 BS 156 J_f3q S_f3q D_f3q 2 0 [sh_TR3, .any] (lk mxk lbn sd_f3q)
abbrev X_f2g : Type := Int × Int
abbrev R_f2g : Type := Bool
def J_f2g : A8 Tryz.prog :=
 BD Tryz.prog Tryz.f188 16 [] [] [] [] [.any] [] [] R_f2g [] fun y => [V.bool y]
def S_f2g : AM :=
 Ae Tryz.f188 2 0 X_f2g (fun x => [(V.int .i64) x.1, (V.int .i64) x.2]) fun l => (dI (at_ l 0), dI (at_ l 1))
structure X_f2g_2 where
 OY : Int
 EL : Int
 N1 : Int
def S_f2g_2 : AM :=
 Ad Tryz.f188 2 (an [0, 1, 5]) [] [] X_f2g_2 (fun x => [(V.int .i64) x.OY, (V.int .i64) x.EL, (V.int .i64) x.N1]) fun l => ⟨dI (at_ l 0), dI (at_ l 1), dI (at_ l 2)⟩
def tt_f2g_2 (D_f2g_2 : AU X_f2g_2 R_f2g) (x : X_f2g_2) : TT Tryz.prog R_f2g :=
 (.ite (BR x.N1 x.EL)
 (.jump S_f2g_2 D_f2g_2 (X_f2g_2.mk (IntKind.i64.wrap (Int.tdiv x.OY 2)) x.EL (IntKind.i64.wrap (x.N1 + 1))))
 (.ret (AX (Int.tmod x.OY 2) 1)))
theorem sd_f2g_2 (D_f2g_2 : AU X_f2g_2 R_f2g) (x : X_f2g_2) : (tt_f2g_2 D_f2g_2 x).AH :=
 (TT.sI TT.sJ TT.sR)
def D_f2g_2 : AU X_f2g_2 R_f2g := AU.loop tt_f2g_2
theorem ok_f2g_2 : AW J_f2g S_f2g_2 D_f2g_2 :=
 A2 fun D_f2g_2 h_2 => lk mxk (lbc h_2 rfl lbn) (sd_f2g_2 D_f2g_2)
def tt_f2g (x : X_f2g) : TT Tryz.prog R_f2g :=
 (.jump S_f2g_2 D_f2g_2 (X_f2g_2.mk x.fst x.snd 0))
theorem sd_f2g (x : X_f2g) : (tt_f2g x).AH :=
 TT.sJ
def D_f2g : AU X_f2g R_f2g := .of tt_f2g
def con_f2g : A3 Tryz.prog :=
 BS 188 J_f2g S_f2g D_f2g 2 0 [.any, .any] (lk mxk (lbc ok_f2g_2 rfl lbn) sd_f2g)
abbrev X_f1a : Type := TR2 × Int × Int
abbrev R_f1a : Type := Int × Int × TR2
def J_f1a : A8 Tryz.prog :=
 BD Tryz.prog Tryz.f160 83 [(3, 3)] [] [] [] [.any, .any, sh_TR2] [] [con_f2c, con_f2g, con_f3z] R_f1a [] fun y => [V.B9 (V.cons ((V.int .u64) y.1) (V.cons ((V.int .i64) y.2.1) (V.cons (e_TR2 y.2.2) (V.unit))))]
def S_f1a : AM :=
 Ae Tryz.f160 3 0 X_f1a (fun x => [e_TR2 x.1, (V.int .i64) x.2.1, (V.int .u64) x.2.2]) fun l => (d_TR2 (at_ l 0), dI (at_ l 1), dI (at_ l 2))
structure X_f1a_3 where
 EL : Int
 JJ : Int
 Dh : TR2
 Ib : TR2
def S_f1a_3 : AM :=
 Ad Tryz.f160 3 (an [1, 2, 3, 8]) [] [(.loc 8 0, sh_TR2)] X_f1a_3 (fun x => [(V.int .i64) x.EL, (V.int .u64) x.JJ, (C2 e_TR2) x.Dh, (V.ptr (.loc 8 0) []), e_TR2 x.Ib]) fun l => ⟨dI (at_ l 0), dI (at_ l 1), (C3 d_TR2) (at_ l 2), d_TR2 (at_ l 4)⟩
structure X_f1a_9 where
 EL : Int
 JJ : Int
 Dh : TR2
 Gt : Int
 Ib : TR2
 Ic : TSo
def S_f1a_9 : AM :=
 Ad Tryz.f160 9 (an [1, 2, 3, 8, 9, 10]) [] [(.loc 8 0, sh_TR2), (.loc 10 0, .any)] X_f1a_9 (fun x => [(V.int .i64) x.EL, (V.int .u64) x.JJ, (C2 e_TR2) x.Dh, (V.ptr (.loc 8 0) []), (V.int .i64) x.Gt, (V.ptr (.loc 10 0) []), e_TR2 x.Ib, e_TSo x.Ic]) fun l => ⟨dI (at_ l 0), dI (at_ l 1), (C3 d_TR2) (at_ l 2), dI (at_ l 4), d_TR2 (at_ l 6), d_TSo (at_ l 7)⟩
structure X_f1a_13 where
 Dh : TR2
 Gt : Int
 UA : Int
 Ib : TR2
 Ic : TSo
def S_f1a_13 : AM :=
 Ad Tryz.f160 13 (an [3, 8, 9, 10, 11]) [] [(.loc 8 0, sh_TR2), (.loc 10 0, .any)] X_f1a_13 (fun x => [(C2 e_TR2) x.Dh, (V.ptr (.loc 8 0) []), (V.int .i64) x.Gt, (V.ptr (.loc 10 0) []), (V.int .u64) x.UA, e_TR2 x.Ib, e_TSo x.Ic]) fun l => ⟨(C3 d_TR2) (at_ l 0), dI (at_ l 2), dI (at_ l 4), d_TR2 (at_ l 5), d_TSo (at_ l 6)⟩
def tt_f1a_13 (x : X_f1a_13) : TT Tryz.prog R_f1a :=
 (.call con_f3z (x.Dh, (x.Gt, x.Ic)) fun (y1 : R_f3z) =>
 (.ret (x.UA, (0, y1))))
theorem sd_f1a_13 (x : X_f1a_13) : (tt_f1a_13 x).AH :=
 (TT.sC fun _ => TT.sR)
def D_f1a_13 : AU X_f1a_13 R_f1a := .of tt_f1a_13
theorem ok_f1a_13 : AW J_f1a S_f1a_13 D_f1a_13 :=
 lk mxk lbn sd_f1a_13
def tt_f1a_9 (x : X_f1a_9) : TT Tryz.prog R_f1a :=
 (.call con_f2c x.EL fun (y1 : R_f2c) =>
 (.ite (AX (IntKind.i64.wrap (x.Ic.Left - (IntKind.i64.wrap (y1 + 1)))) 0)
 (.jump S_f1a_13 D_f1a_13 (X_f1a_13.mk x.Dh x.Gt x.Ic.Value x.Ib (TSo.mk (IntKind.u64.wrap ((2 : Int) * (IntKind.u64.wrap (x.JJ + (IntKind.u64.wrap ((x.Dh.L.n : Nat) : Int)))))) 0 0)))
 (.jump S_f1a_13 D_f1a_13 (X_f1a_13.mk x.Dh x.Gt x.Ic.Value x.Ib (TSo.mk x.Ic.AO x.Ic.Value (IntKind.i64.wrap (x.Ic.Left - (IntKind.i64.wrap (y1 + 1)))))))))
theorem sd_f1a_9 (x : X_f1a_9) : (tt_f1a_9 x).AH :=
 (TT.sC fun _ => (TT.sI TT.sJ TT.sJ))
def D_f1a_9 : AU X_f1a_9 R_f1a := .of tt_f1a_9
theorem ok_f1a_9 : AW J_f1a S_f1a_9 D_f1a_9 :=
 lk mxk (lbc ok_f1a_13 rfl lbn) sd_f1a_9
def tt_f1a_3 (x : X_f1a_3) : TT Tryz.prog R_f1a :=
 (.need (!(AX (IntKind.u64.wrap ((x.Dh.L.n : Nat) : Int)) 0)) <|
 (.need (Az (IntKind.i64.wrap (Int.tmod x.JJ (IntKind.u64.wrap ((x.Dh.L.n : Nat) : Int)))) x.Dh.L.n) <|
 (.ite (BR (x.Dh.L.get (Int.toNat (IntKind.i64.wrap (Int.tmod x.JJ (IntKind.u64.wrap ((x.Dh.L.n : Nat) : Int)))))).AO (IntKind.u64.wrap ((IntKind.u64.wrap ((2 : Int) * x.JJ)) + 1)))
 (.ret (0, (9, x.Dh)))
 (.ite (BR (IntKind.u64.wrap ((IntKind.u64.wrap ((2 : Int) * x.JJ)) + 1)) (x.Dh.L.get (Int.toNat (IntKind.i64.wrap (Int.tmod x.JJ (IntKind.u64.wrap ((x.Dh.L.n : Nat) : Int)))))).AO)
 (.ret (0, (11, x.Dh)))
 (.call con_f2g ((x.Dh.L.get (Int.toNat (IntKind.i64.wrap (Int.tmod x.JJ (IntKind.u64.wrap ((x.Dh.L.n : Nat) : Int)))))).Left, x.EL) fun (y1 : R_f2g) =>
 (.ite (!y1)
 (.ret (0, (11, x.Dh)))
 (.jump S_f1a_9 D_f1a_9 (X_f1a_9.mk x.EL x.JJ x.Dh (IntKind.i64.wrap (Int.tmod x.JJ (IntKind.u64.wrap ((x.Dh.L.n : Nat) : Int)))) x.Ib (x.Dh.L.get (Int.toNat (IntKind.i64.wrap (Int.tmod x.JJ (IntKind.u64.wrap ((x.Dh.L.n : Nat) : Int))))))))))))))
theorem sd_f1a_3 (x : X_f1a_3) : (tt_f1a_3 x).AH :=
 (TT.sN (TT.sN (TT.sI TT.sR (TT.sI TT.sR (TT.sC fun _ => (TT.sI TT.sR TT.sJ))))))
def D_f1a_3 : AU X_f1a_3 R_f1a := .of tt_f1a_3
theorem ok_f1a_3 : AW J_f1a S_f1a_3 D_f1a_3 :=
 lk mxk (lbc ok_f1a_13 rfl (lbc ok_f1a_9 rfl lbn)) sd_f1a_3
def tt_f1a (x : X_f1a) : TT Tryz.prog R_f1a :=
 (.ite (BW 4611686018427387904 x.snd.snd)
 (.ret (0, (1, x.fst)))
 (.ite (BR x.snd.fst 0)
 (.ret (0, (1, x.fst)))
 (.ite (BW x.fst.AQ x.snd.fst)
 (.ret (0, (1, x.fst)))
 (.jump S_f1a_3 D_f1a_3 (X_f1a_3.mk x.snd.fst x.snd.snd x.fst (TR2.mk (Sl.mk true 0 (fun _i1 => (TSo.mk 0 0 0))) 0))))))
theorem sd_f1a (x : X_f1a) : (tt_f1a x).AH :=
 (TT.sI TT.sR (TT.sI TT.sR (TT.sI TT.sR TT.sJ)))
def D_f1a : AU X_f1a R_f1a := .of tt_f1a
def con_f1a : A3 Tryz.prog :=
 BS 160 J_f1a S_f1a D_f1a 3 0 [sh_TR2, .any, .any] (lk mxk (lbc ok_f1a_13 rfl (lbc ok_f1a_9 rfl (lbc ok_f1a_3 rfl lbn))) sd_f1a)
abbrev X_f1m : Type := TR3 × Int × Int
abbrev R_f1m : Type := Int × Int × TR3
def J_f1m : A8 Tryz.prog :=
 BD Tryz.prog Tryz.f126 44 [(30, 1)] [] [] [] [.any, .any, sh_TR3] [] [con_f1a] R_f1m [] fun y => [V.B9 (V.cons ((V.int .u64) y.1) (V.cons ((V.int .i64) y.2.1) (V.cons (e_TR3 y.2.2) (V.unit))))]
def S_f1m : AM :=
 Ae Tryz.f126 3 0 X_f1m (fun x => [e_TR3 x.1, (V.int .i64) x.2.1, (V.int .u64) x.2.2]) fun l => (d_TR3 (at_ l 0), dI (at_ l 1), dI (at_ l 2))
structure X_f1m_3 where
 EL : Int
 JJ : Int
 A0 : TR3
 Ib : TR3
def S_f1m_3 : AM :=
 Ad Tryz.f126 3 (an [1, 2, 3, 8]) [] [(.loc 3 0, sh_TR3), (.loc 8 0, sh_TR3)] X_f1m_3 (fun x => [(V.int .i64) x.EL, (V.int .u64) x.JJ, (V.ptr (.loc 3 0) []), (V.ptr (.loc 8 0) []), e_TR3 x.A0, e_TR3 x.Ib]) fun l => ⟨dI (at_ l 0), dI (at_ l 1), d_TR3 (at_ l 4), d_TR3 (at_ l 5)⟩
def tt_f1m_3 (x : X_f1m_3) : TT Tryz.prog R_f1m :=
 (.need (Az x.EL x.A0.AY.n) <|
 (.ite (BW (x.A0.AY.get (Int.toNat x.EL)) x.JJ)
 (.ret (0, (11, x.A0)))
 (.call con_f1a (x.A0.S, (x.EL, x.JJ)) fun (y1 : R_f1a) =>
 (.ret (y1.fst, (y1.snd.fst, (TR3.mk x.A0.Cf x.A0.Au x.A0.AY x.A0.Aw y1.snd.snd)))))))
theorem sd_f1m_3 (x : X_f1m_3) : (tt_f1m_3 x).AH :=
 (TT.sN (TT.sI TT.sR (TT.sC fun _ => TT.sR)))
def D_f1m_3 : AU X_f1m_3 R_f1m := .of tt_f1m_3
theorem ok_f1m_3 : AW J_f1m S_f1m_3 D_f1m_3 :=
 lk mxk lbn sd_f1m_3
def tt_f1m (x : X_f1m) : TT Tryz.prog R_f1m :=
 (.ite (BR x.snd.fst 0)
 (.ret (0, (1, x.fst)))
 (.ite (BW ((x.fst.AY.n : Nat) : Int) x.snd.fst)
 (.ret (0, (1, x.fst)))
 (.jump S_f1m_3 D_f1m_3 (X_f1m_3.mk x.snd.fst x.snd.snd x.fst (TR3.mk 0 0 (Sl.mk true 0 (fun _i1 => (0 : Int))) false (TR2.mk (Sl.mk true 0 (fun _i1 => (TSo.mk 0 0 0))) 0))))))
theorem sd_f1m (x : X_f1m) : (tt_f1m x).AH :=
 (TT.sI TT.sR (TT.sI TT.sR TT.sJ))
def D_f1m : AU X_f1m R_f1m := .of tt_f1m
def con_f1m : A3 Tryz.prog :=
 BS 126 J_f1m S_f1m D_f1m 3 0 [sh_TR3, .any, .any] (lk mxk (lbc ok_f1m_3 rfl lbn) sd_f1m)
abbrev X_f3j : Type := TPg × TSt × TA6 × TEv × Bool
abbrev R_f3j : Type := Bool
def J_f3j : A8 Tryz.prog :=
 BD Tryz.prog Tryz.f120 92 [(5, 3), (6, 3), (7, 3), (8, 3), (46, 1), (75, 1)] [] [] [] [.any] [] [con_f3v, con_f36, con_f1m, con_f3q, con_f3r] R_f3j [] fun y => [V.bool y]
def S_f3j : AM :=
 Ae Tryz.f120 5 0 X_f3j (fun x => [e_TPg x.1, e_TSt x.2.1, e_TA6 x.2.2.1, e_TEv x.2.2.2.1, V.bool x.2.2.2.2]) fun l => (d_TPg (at_ l 0), d_TSt (at_ l 1), d_TA6 (at_ l 2), d_TEv (at_ l 3), dB (at_ l 4))
def tt_f3j (x : X_f3j) : TT Tryz.prog R_f3j :=
 (.call con_f3r (x.fst, (x.snd.fst, x.snd.snd.snd.fst.Ring)) fun (y1 : R_f3r) =>
 (.ite (AX x.snd.snd.snd.fst.Kind 1)
 (.ite x.snd.snd.snd.snd
 (.ite (!y1.Aw)
 (.call con_f3v y1 fun (y2 : R_f3v) =>
 (.ite (!y2)
 (.ret (AX x.snd.snd.snd.fst.AG y1.Au))
 (.ret false)))
 (.ret false))
 (.call con_f3v y1 fun (y2 : R_f3v) =>
 (.ite (!y2)
 (.ret (AX x.snd.snd.snd.fst.AG y1.Au))
 (.ret false))))
 (.ite (AX x.snd.snd.snd.fst.Kind 2)
 (.call con_f36 (y1, (x.snd.snd.snd.fst.AG, 0)) fun (y2 : R_f36) =>
 (.ret (AX y2.fst 0)))
 (.ite (AX x.snd.snd.snd.fst.Kind 3)
 (.call con_f3q (y1, x.snd.snd.fst.Reader) fun (y2 : R_f3q) =>
 (.ite (!y2)
 (.need (Az x.snd.snd.fst.Reader y1.AY.n) <|
 (.ret (AX x.snd.snd.snd.fst.AG (y1.AY.get (Int.toNat x.snd.snd.fst.Reader)))))
 (.ret false)))
 (.ite (AX x.snd.snd.snd.fst.Kind 4)
 (.call con_f1m (y1, (x.snd.snd.fst.Reader, x.snd.snd.snd.fst.AG)) fun (y2 : R_f1m) =>
 (.ret (AX y2.snd.fst 0)))
 (.ret (AX x.snd.snd.snd.fst.AG y1.Au)))))))
theorem sd_f3j (x : X_f3j) : (tt_f3j x).AH :=
 (TT.sC fun _ => (TT.sI (TT.sI (TT.sI (TT.sC fun _ => (TT.sI TT.sR TT.sR)) TT.sR) (TT.sC fun _ => (TT.sI TT.sR TT.sR))) (TT.sI (TT.sC fun _ => TT.sR) (TT.sI (TT.sC fun _ => (TT.sI (TT.sN TT.sR) TT.sR)) (TT.sI (TT.sC fun _ => TT.sR) TT.sR)))))
def D_f3j : AU X_f3j R_f3j := .of tt_f3j
def con_f3j : A3 Tryz.prog :=
 BS 120 J_f3j S_f3j D_f3j 5 0 [sh_TPg, sh_TSt, .any, .any, .any] (lk mxk lbn sd_f3j)
abbrev X_f10 : Type := TPg × TSt × TA6 × TEv
abbrev R_f10 : Type := Bool
def J_f10 : A8 Tryz.prog :=
 BD Tryz.prog Tryz.f121 47 [(4, 3), (5, 3), (6, 3), (7, 3)] [] [] [] [.any] [] [con_f3v, con_f3q, con_f3r] R_f10 [] fun y => [V.bool y]
def S_f10 : AM :=
 Ae Tryz.f121 4 0 X_f10 (fun x => [e_TPg x.1, e_TSt x.2.1, e_TA6 x.2.2.1, e_TEv x.2.2.2]) fun l => (d_TPg (at_ l 0), d_TSt (at_ l 1), d_TA6 (at_ l 2), d_TEv (at_ l 3))
structure X_f10_3 where
 e_7 : TEv
 PA : Bool
 CX : TR3
def S_f10_3 : AM :=
 Ad Tryz.f121 3 (an [7, 9, 10]) [] [(.loc 9 0, sh_TR3)] X_f10_3 (fun x => [(C2 e_TEv) x.e_7, (V.ptr (.loc 9 0) []), V.bool x.PA, e_TR3 x.CX]) fun l => ⟨(C3 d_TEv) (at_ l 0), dB (at_ l 2), d_TR3 (at_ l 3)⟩
def tt_f10_3 (x : X_f10_3) : TT Tryz.prog R_f10 :=
 (.ite x.PA
 (.ret (x.CX.Aw == (AX x.e_7.Kind 6)))
 (.ret false))
theorem sd_f10_3 (x : X_f10_3) : (tt_f10_3 x).AH :=
 (TT.sI TT.sR TT.sR)
def D_f10_3 : AU X_f10_3 R_f10 := .of tt_f10_3
theorem ok_f10_3 : AW J_f10 S_f10_3 D_f10_3 :=
 lk mxk lbn sd_f10_3
def tt_f10 (x : X_f10) : TT Tryz.prog R_f10 :=
 (.call con_f3r (x.fst, (x.snd.fst, x.snd.snd.snd.Ring)) fun (y1 : R_f3r) =>
 (.ite (AX x.snd.snd.fst.Kind 1)
 (.ite y1.Aw
 (.jump S_f10_3 D_f10_3 (X_f10_3.mk x.snd.snd.snd true y1))
 (.call con_f3v y1 fun (y2 : R_f3v) =>
 (.ite y2
 (.jump S_f10_3 D_f10_3 (X_f10_3.mk x.snd.snd.snd true y1))
 (.ite (AX x.snd.snd.fst.Kind 2)
 (.call con_f3q (y1, x.snd.snd.fst.Reader) fun (y3 : R_f3q) =>
 (.jump S_f10_3 D_f10_3 (X_f10_3.mk x.snd.snd.snd y3 y1)))
 (.jump S_f10_3 D_f10_3 (X_f10_3.mk x.snd.snd.snd false y1))))))
 (.ite (AX x.snd.snd.fst.Kind 2)
 (.call con_f3q (y1, x.snd.snd.fst.Reader) fun (y2 : R_f3q) =>
 (.jump S_f10_3 D_f10_3 (X_f10_3.mk x.snd.snd.snd y2 y1)))
 (.jump S_f10_3 D_f10_3 (X_f10_3.mk x.snd.snd.snd false y1)))))
theorem sd_f10 (x : X_f10) : (tt_f10 x).AH :=
 (TT.sC fun _ => (TT.sI (TT.sI TT.sJ (TT.sC fun _ => (TT.sI TT.sJ (TT.sI (TT.sC fun _ => TT.sJ) TT.sJ)))) (TT.sI (TT.sC fun _ => TT.sJ) TT.sJ)))
def D_f10 : AU X_f10 R_f10 := .of tt_f10
def con_f10 : A3 Tryz.prog :=
 BS 121 J_f10 S_f10 D_f10 4 0 [sh_TPg, sh_TSt, .any, .any] (lk mxk (lbc ok_f10_3 rfl lbn) sd_f10)
abbrev X_f3f : Type := TPg × TSt × TEv
abbrev R_f3f : Type := Bool
def J_f3f : A8 Tryz.prog :=
 BD Tryz.prog Tryz.f75 60 [(3, 3), (4, 3), (5, 3)] [] [] [] [.any] [] [con_f4a, con_f3y, con_f10, con_f3j] R_f3f [] fun y => [V.bool y]
def S_f3f : AM :=
 Ae Tryz.f75 3 0 X_f3f (fun x => [e_TPg x.1, e_TSt x.2.1, e_TEv x.2.2]) fun l => (d_TPg (at_ l 0), d_TSt (at_ l 1), d_TEv (at_ l 2))
def tt_f3f (x : X_f3f) : TT Tryz.prog R_f3f :=
 (.call con_f3y (x.fst, (x.snd.fst, x.snd.snd)) fun (y1 : R_f3y) =>
 (.ite (!(AX y1 0))
 (.ret false)
 (.call con_f4a (x.fst, (x.snd.fst, x.snd.snd.Thread)) fun (y2 : R_f4a) =>
 (.ite (AX x.snd.snd.Kind 1)
 (.call con_f3j (x.fst, (x.snd.fst, (y2, (x.snd.snd, true)))) fun (y3 : R_f3j) =>
 (.ret y3))
 (.ite (AX x.snd.snd.Kind 2)
 (.call con_f3j (x.fst, (x.snd.fst, (y2, (x.snd.snd, true)))) fun (y3 : R_f3j) =>
 (.ret y3))
 (.ite (AX x.snd.snd.Kind 3)
 (.call con_f3j (x.fst, (x.snd.fst, (y2, (x.snd.snd, true)))) fun (y3 : R_f3j) =>
 (.ret y3))
 (.ite (AX x.snd.snd.Kind 4)
 (.call con_f3j (x.fst, (x.snd.fst, (y2, (x.snd.snd, true)))) fun (y3 : R_f3j) =>
 (.ret y3))
 (.ite (AX x.snd.snd.Kind 13)
 (.call con_f3j (x.fst, (x.snd.fst, (y2, (x.snd.snd, true)))) fun (y3 : R_f3j) =>
 (.ret y3))
 (.ite (AX x.snd.snd.Kind 5)
 (.call con_f10 (x.fst, (x.snd.fst, (y2, x.snd.snd))) fun (y3 : R_f10) =>
 (.ret y3))
 (.ite (AX x.snd.snd.Kind 6)
 (.call con_f10 (x.fst, (x.snd.fst, (y2, x.snd.snd))) fun (y3 : R_f10) =>
 (.ret y3))
 (.ite (AX x.snd.snd.Kind 7)
 (.call con_f10 (x.fst, (x.snd.fst, (y2, x.snd.snd))) fun (y3 : R_f10) =>
 (.ret y3))
 (.ite (AX x.snd.snd.Kind 8)
 (.ite (BW x.snd.fst.Gz x.snd.snd.Value)
 (.ret (BR (IntKind.u64.wrap (x.snd.snd.Value - x.snd.fst.Gz)) 1048576))
 (.ret false))
 (.ite (AX x.snd.snd.Kind 10)
 (.ret (!x.snd.fst.CB))
 (.ret true))))))))))))))
theorem sd_f3f (x : X_f3f) : (tt_f3f x).AH :=
 (TT.sC fun _ => (TT.sI TT.sR (TT.sC fun _ => (TT.sI (TT.sC fun _ => TT.sR) (TT.sI (TT.sC fun _ => TT.sR) (TT.sI (TT.sC fun _ => TT.sR) (TT.sI (TT.sC fun _ => TT.sR) (TT.sI (TT.sC fun _ => TT.sR) (TT.sI (TT.sC fun _ => TT.sR) (TT.sI (TT.sC fun _ => TT.sR) (TT.sI (TT.sC fun _ => TT.sR) (TT.sI (TT.sI TT.sR TT.sR) (TT.sI TT.sR TT.sR)))))))))))))
def D_f3f : AU X_f3f R_f3f := .of tt_f3f
def con_f3f : A3 Tryz.prog :=
 BS 75 J_f3f S_f3f D_f3f 3 0 [sh_TPg, sh_TSt, .any] (lk mxk lbn sd_f3f)
abbrev X_f2w : Type := TR3 × Int
abbrev R_f2w : Type := Int × Int × TR3
def J_f2w : A8 Tryz.prog :=
 BD Tryz.prog Tryz.f125 51 [(29, 1)] [(9, [.close (.loc 38 0), .close (.loc 35 0), .Tt (.loc 2 0) [.CC 2 2]])] [(8, [.IQ (.loc 2 0) [.CC 2 2] 35, .IQ (.loc 2 0) [.CC 2 2] 38])] [.close (.loc 38 0), .close (.loc 35 0)] [.any, .any, sh_TR3] [] [] R_f2w [(0, [⟨.loc 35 0, .loc 2 0, [.CC 2 2], none, none⟩, ⟨.loc 38 0, .loc 2 0, [.CC 2 2], none, none⟩]), (3, [⟨.loc 35 0, .loc 2 0, [.CC 2 2], none, none⟩, ⟨.loc 38 0, .loc 2 0, [.CC 2 2], none, none⟩])] fun y => [V.B9 (V.cons ((V.int .u64) y.1) (V.cons ((V.int .i64) y.2.1) (V.cons (e_TR3 y.2.2) (V.unit))))]
def S_f2w : AM :=
 Ae Tryz.f125 2 0 X_f2w (fun x => [e_TR3 x.1, (V.int .i64) x.2]) fun l => (d_TR3 (at_ l 0), dI (at_ l 1))
structure X_f2w_3 where
 EL : Int
 Ey : TR3
 HI : TR3
def S_f2w_3 : AM :=
 Ad Tryz.f125 3 (an [1, 2, 6]) [] [(.loc 2 0, sh_TR3), (.loc 6 0, sh_TR3)] X_f2w_3 (fun x => [(V.int .i64) x.EL, (V.ptr (.loc 2 0) []), (V.ptr (.loc 6 0) []), e_TR3 x.Ey, e_TR3 x.HI]) fun l => ⟨dI (at_ l 0), d_TR3 (at_ l 3), d_TR3 (at_ l 4)⟩
def tt_f2w_3 (x : X_f2w_3) : TT Tryz.prog R_f2w :=
 (.need (Az x.EL x.Ey.AY.n) <|
 (.ite (AX (x.Ey.AY.get (Int.toNat x.EL)) x.Ey.Au)
 (.ite x.Ey.Aw
 (.ret (0, (10, x.Ey)))
 (.ret (0, (9, x.Ey))))
 (.need (true && (room ((0 : Nat) + x.Ey.AY.n) 8)) <|
 (.need (Az x.EL ((0 : Nat) + x.Ey.AY.n)) <|
 (.need ((Nat.beq ((0 : Nat) + x.Ey.AY.n) ((0 : Nat) + x.Ey.AY.n)) && true) <|
 (.need (Az x.EL ((0 : Nat) + x.Ey.AY.n)) <|
 (.need ((Nat.beq ((0 : Nat) + x.Ey.AY.n) ((0 : Nat) + x.Ey.AY.n)) && true) <|
 (.need ((true && true) && (Nat.beq ((0 : Nat) + x.Ey.AY.n) ((0 : Nat) + x.Ey.AY.n))) <|
 (.side (∀ i1 : Nat, ((i1 < ((0 : Nat) + x.Ey.AY.n)) → (true = true))) <|
 (.need (Az x.EL ((0 : Nat) + x.Ey.AY.n)) <|
 (.ret ((IntKind.u64.wrap ((cond (Nat.beq (Int.toNat x.EL) ((0 : Nat) + (Int.toNat x.EL))) (IntKind.u64.wrap ((cond (Nat.blt ((0 : Nat) + (Int.toNat x.EL)) 0) (0 : Int) (x.Ey.AY.get (((0 : Nat) + (Int.toNat x.EL)) - 0))) + 1)) (cond (Nat.blt (Int.toNat x.EL) 0) (0 : Int) (x.Ey.AY.get ((Int.toNat x.EL) - 0)))) - 1)), (0, (TR3.mk x.Ey.Cf x.Ey.Au (Sl.mk (cond (Nat.beq x.Ey.AY.n 0) false false) ((0 : Nat) + x.Ey.AY.n) (fun i1 => (cond (Nat.beq i1 ((0 : Nat) + (Int.toNat x.EL))) (IntKind.u64.wrap ((cond (Nat.blt ((0 : Nat) + (Int.toNat x.EL)) 0) (0 : Int) (x.Ey.AY.get (((0 : Nat) + (Int.toNat x.EL)) - 0))) + 1)) (cond (Nat.blt i1 0) (0 : Int) (x.Ey.AY.get (i1 - 0)))))) x.Ey.Aw x.Ey.S))))))))))))))
theorem sd_f2w_3 (x : X_f2w_3) : (tt_f2w_3 x).AH :=
 (TT.sN (TT.sI (TT.sI TT.sR TT.sR) (TT.sN (TT.sN (TT.sN (TT.sN (TT.sN (TT.sN (TT.sS (fun _ _ => rfl) (TT.sN TT.sR))))))))))
def D_f2w_3 : AU X_f2w_3 R_f2w := .of tt_f2w_3
theorem ok_f2w_3 : AW J_f2w S_f2w_3 D_f2w_3 :=
 lk mxk lbn sd_f2w_3
def tt_f2w (x : X_f2w) : TT Tryz.prog R_f2w :=
 (.ite (BR x.snd 0)
 (.ret (0, (1, x.fst)))
 (.ite (BW ((x.fst.AY.n : Nat) : Int) x.snd)
 (.ret (0, (1, x.fst)))
 (.jump S_f2w_3 D_f2w_3 (X_f2w_3.mk x.snd x.fst (TR3.mk 0 0 (Sl.mk true 0 (fun _i1 => (0 : Int))) false (TR2.mk (Sl.mk true 0 (fun _i1 => (TSo.mk 0 0 0))) 0))))))
theorem sd_f2w (x : X_f2w) : (tt_f2w x).AH :=
 (TT.sI TT.sR (TT.sI TT.sR TT.sJ))
def D_f2w : AU X_f2w R_f2w := .of tt_f2w
def con_f2w : A3 Tryz.prog :=
 BS 125 J_f2w S_f2w D_f2w 2 0 [sh_TR3, .any] (lk mxk (lbc ok_f2w_3 rfl lbn) sd_f2w)
abbrev X_fo : Type := (Sl TIn) × TTh × TEv × Int
abbrev R_fo : Type := TTh
def J_fo : A8 Tryz.prog :=
 BD Tryz.prog Tryz.f127 117 [(6, 3), (35, 1)] [] [] [] [sh_TTh] [] [] R_fo [] fun y => [e_TTh y]
def S_fo : AM :=
 Ae Tryz.f127 4 0 X_fo (fun x => [esl_TIn x.1, e_TTh x.2.1, e_TEv x.2.2.1, (V.int .u64) x.2.2.2]) fun l => (dsl_TIn (at_ l 0), d_TTh (at_ l 1), d_TEv (at_ l 2), dI (at_ l 3))
structure X_fo_12 where
 Bf : (Sl TIn)
 T9 : Int
 Hr : TEv
 A7 : TTh
 Ib : TTh
def S_fo_12 : AM :=
 Ad Tryz.f127 12 [(0, hsl_TIn), (3, .any), (5, .any), (6, .any), (8, .any)] [] [(.loc 5 0, sh_TTh), (.loc 8 0, sh_TTh)] X_fo_12 (fun x => [esl_TIn x.Bf, (V.int .u64) x.T9, (V.ptr (.loc 5 0) []), (C2 e_TEv) x.Hr, (V.ptr (.loc 8 0) []), e_TTh x.A7, e_TTh x.Ib]) fun l => ⟨dsl_TIn (at_ l 0), dI (at_ l 1), (C3 d_TEv) (at_ l 3), d_TTh (at_ l 5), d_TTh (at_ l 6)⟩
structure X_fo_33 where
 A7 : TTh
 Ib : TTh
def S_fo_33 : AM :=
 Ad Tryz.f127 33 (an [5, 8]) [] [(.loc 5 0, sh_TTh), (.loc 8 0, sh_TTh)] X_fo_33 (fun x => [(V.ptr (.loc 5 0) []), (V.ptr (.loc 8 0) []), e_TTh x.A7, e_TTh x.Ib]) fun l => ⟨d_TTh (at_ l 2), d_TTh (at_ l 3)⟩
def tt_fo_33 (x : X_fo_33) : TT Tryz.prog R_fo :=
 (.ret (TTh.mk (IntKind.i64.wrap (x.A7.At + 1)) 0 0 x.A7.Status 0 x.A7.Af x.A7.Seen))
theorem sd_fo_33 (x : X_fo_33) : (tt_fo_33 x).AH :=
 TT.sR
def D_fo_33 : AU X_fo_33 R_fo := .of tt_fo_33
theorem ok_fo_33 : AW J_fo S_fo_33 D_fo_33 :=
 lk mxk lbn sd_fo_33
def tt_fo_12 (x : X_fo_12) : TT Tryz.prog R_fo :=
 (.need (Az x.A7.At x.Bf.n) <|
 (.ite (AX x.Hr.Kind 2)
 (.need (Az (x.Bf.get (Int.toNat x.A7.At)).B 8) <|
 (.jump S_fo_33 D_fo_33 (X_fo_33.mk (TTh.mk x.A7.At x.A7.Phase x.A7.Ring x.A7.Status x.A7.AG (fun i1 => (cond (Nat.beq i1 (Int.toNat (x.Bf.get (Int.toNat x.A7.At)).B)) (0 : Int) (x.A7.Af i1))) x.A7.Seen) x.Ib)))
 (.ite (AX x.Hr.Kind 4)
 (.need (Az (x.Bf.get (Int.toNat x.A7.At)).A 8) <|
 (.need (Az (x.Bf.get (Int.toNat x.A7.At)).B 8) <|
 (.jump S_fo_33 D_fo_33 (X_fo_33.mk (TTh.mk x.A7.At x.A7.Phase x.A7.Ring x.A7.Status x.A7.AG (fun i1 => (cond (Nat.beq i1 (Int.toNat (x.Bf.get (Int.toNat x.A7.At)).B)) (0 : Int) (cond (Nat.beq i1 (Int.toNat (x.Bf.get (Int.toNat x.A7.At)).A)) x.T9 (x.A7.Af i1)))) x.A7.Seen) x.Ib))))
 (.ite (AX x.Hr.Kind 5)
 (.need (Az (x.Bf.get (Int.toNat x.A7.At)).B 8) <|
 (.jump S_fo_33 D_fo_33 (X_fo_33.mk (TTh.mk x.A7.At x.A7.Phase x.A7.Ring x.A7.Status x.A7.AG (fun i1 => (cond (Nat.beq i1 (Int.toNat (x.Bf.get (Int.toNat x.A7.At)).B)) (IntKind.u64.wrap (IntKind.i64.wrap (x.Hr.Kind - 4))) (x.A7.Af i1))) x.A7.Seen) x.Ib)))
 (.ite (AX x.Hr.Kind 6)
 (.need (Az (x.Bf.get (Int.toNat x.A7.At)).B 8) <|
 (.jump S_fo_33 D_fo_33 (X_fo_33.mk (TTh.mk x.A7.At x.A7.Phase x.A7.Ring x.A7.Status x.A7.AG (fun i1 => (cond (Nat.beq i1 (Int.toNat (x.Bf.get (Int.toNat x.A7.At)).B)) (IntKind.u64.wrap (IntKind.i64.wrap (x.Hr.Kind - 4))) (x.A7.Af i1))) x.A7.Seen) x.Ib)))
 (.ite (AX x.Hr.Kind 7)
 (.need (Az (x.Bf.get (Int.toNat x.A7.At)).B 8) <|
 (.jump S_fo_33 D_fo_33 (X_fo_33.mk (TTh.mk x.A7.At x.A7.Phase x.A7.Ring x.A7.Status x.A7.AG (fun i1 => (cond (Nat.beq i1 (Int.toNat (x.Bf.get (Int.toNat x.A7.At)).B)) (IntKind.u64.wrap (IntKind.i64.wrap (x.Hr.Kind - 4))) (x.A7.Af i1))) x.A7.Seen) x.Ib)))
 (.ite (AX x.Hr.Kind 8)
 (.need (Az (x.Bf.get (Int.toNat x.A7.At)).A 8) <|
 (.jump S_fo_33 D_fo_33 (X_fo_33.mk (TTh.mk x.A7.At x.A7.Phase x.A7.Ring x.A7.Status x.A7.AG (fun i1 => (cond (Nat.beq i1 (Int.toNat (x.Bf.get (Int.toNat x.A7.At)).A)) x.Hr.Value (x.A7.Af i1))) x.A7.Seen) x.Ib)))
 (.ite (AX x.Hr.Kind 9)
 (.need (Az (x.Bf.get (Int.toNat x.A7.At)).A 8) <|
 (.jump S_fo_33 D_fo_33 (X_fo_33.mk (TTh.mk x.A7.At x.A7.Phase x.A7.Ring x.A7.Status x.A7.AG (fun i1 => (cond (Nat.beq i1 (Int.toNat (x.Bf.get (Int.toNat x.A7.At)).A)) x.Hr.Value (x.A7.Af i1))) x.A7.Seen) x.Ib)))
 (.ite (AX x.Hr.Kind 10)
 (.need (Az (x.Bf.get (Int.toNat x.A7.At)).A 8) <|
 (.need (Az (x.Bf.get (Int.toNat x.A7.At)).B 8) <|
 (.jump S_fo_33 D_fo_33 (X_fo_33.mk (TTh.mk x.A7.At x.A7.Phase x.A7.Ring x.A7.Status x.A7.AG (fun i1 => (cond (Nat.beq i1 (Int.toNat (x.Bf.get (Int.toNat x.A7.At)).B)) (0 : Int) (cond (Nat.beq i1 (Int.toNat (x.Bf.get (Int.toNat x.A7.At)).A)) x.Hr.Value (x.A7.Af i1)))) x.A7.Seen) x.Ib))))
 (.ite (AX x.Hr.Kind 11)
 (.need (Az (x.Bf.get (Int.toNat x.A7.At)).B 8) <|
 (.jump S_fo_33 D_fo_33 (X_fo_33.mk (TTh.mk x.A7.At x.A7.Phase x.A7.Ring x.A7.Status x.A7.AG (fun i1 => (cond (Nat.beq i1 (Int.toNat (x.Bf.get (Int.toNat x.A7.At)).B)) (1 : Int) (x.A7.Af i1))) x.A7.Seen) x.Ib)))
 (.ite (AX x.Hr.Kind 12)
 (.need (true && (room ((0 : Nat) + x.A7.Seen.n) 8)) <|
 (.need (true && (room (((0 : Nat) + x.A7.Seen.n) + 1) 8)) <|
 (.jump S_fo_33 D_fo_33 (X_fo_33.mk (TTh.mk x.A7.At x.A7.Phase x.A7.Ring x.A7.Status x.A7.AG x.A7.Af (Sl.mk (cond (Nat.beq 1 0) (cond (Nat.beq x.A7.Seen.n 0) false false) false) (((0 : Nat) + x.A7.Seen.n) + 1) (fun i1 => (cond (Nat.blt i1 ((0 : Nat) + x.A7.Seen.n)) (cond (Nat.blt i1 0) (0 : Int) (x.A7.Seen.get (i1 - 0))) x.Hr.Value)))) x.Ib))))
 (.jump S_fo_33 D_fo_33 (X_fo_33.mk x.A7 x.Ib)))))))))))))
theorem sd_fo_12 (x : X_fo_12) : (tt_fo_12 x).AH :=
 (TT.sN (TT.sI (TT.sN TT.sJ) (TT.sI (TT.sN (TT.sN TT.sJ)) (TT.sI (TT.sN TT.sJ) (TT.sI (TT.sN TT.sJ) (TT.sI (TT.sN TT.sJ) (TT.sI (TT.sN TT.sJ) (TT.sI (TT.sN TT.sJ) (TT.sI (TT.sN (TT.sN TT.sJ)) (TT.sI (TT.sN TT.sJ) (TT.sI (TT.sN (TT.sN TT.sJ)) TT.sJ)))))))))))
def D_fo_12 : AU X_fo_12 R_fo := .of tt_fo_12
theorem ok_fo_12 : AW J_fo S_fo_12 D_fo_12 :=
 lk mxk (lbc ok_fo_33 rfl lbn) sd_fo_12
def tt_fo (x : X_fo) : TT Tryz.prog R_fo :=
 (.ite (AX x.snd.snd.fst.Kind 1)
 (.ret (TTh.mk x.snd.fst.At (IntKind.i64.wrap (Int.tdiv (IntKind.i64.wrap (x.snd.snd.fst.Kind + 1)) 2)) x.snd.snd.fst.Ring x.snd.fst.Status x.snd.snd.fst.AG x.snd.fst.Af x.snd.fst.Seen))
 (.ite (AX x.snd.snd.fst.Kind 3)
 (.ret (TTh.mk x.snd.fst.At (IntKind.i64.wrap (Int.tdiv (IntKind.i64.wrap (x.snd.snd.fst.Kind + 1)) 2)) x.snd.snd.fst.Ring x.snd.fst.Status x.snd.snd.fst.AG x.snd.fst.Af x.snd.fst.Seen))
 (.ite (AX x.snd.snd.fst.Kind 14)
 (.ret (TTh.mk x.snd.fst.At x.snd.fst.Phase x.snd.fst.Ring (IntKind.i64.wrap (x.snd.snd.fst.Kind - 13)) x.snd.fst.AG x.snd.fst.Af x.snd.fst.Seen))
 (.ite (AX x.snd.snd.fst.Kind 15)
 (.ret (TTh.mk x.snd.fst.At x.snd.fst.Phase x.snd.fst.Ring (IntKind.i64.wrap (x.snd.snd.fst.Kind - 13)) x.snd.fst.AG x.snd.fst.Af x.snd.fst.Seen))
 (.jump S_fo_12 D_fo_12 (X_fo_12.mk x.fst x.snd.snd.snd x.snd.snd.fst x.snd.fst (TTh.mk 0 0 0 0 0 (fun _i1 => (0 : Int)) (Sl.mk true 0 (fun _i1 => (0 : Int))))))))))
theorem sd_fo (x : X_fo) : (tt_fo x).AH :=
 (TT.sI TT.sR (TT.sI TT.sR (TT.sI TT.sR (TT.sI TT.sR TT.sJ))))
def D_fo : AU X_fo R_fo := .of tt_fo
def con_fo : A3 Tryz.prog :=
 BS 127 J_fo S_fo D_fo 4 0 [hsl_TIn, sh_TTh, .any, .any] (lk mxk (lbc ok_fo_33 rfl (lbc ok_fo_12 rfl lbn)) sd_fo)
abbrev X_f6 : Type := TPg × TSt × TEv
abbrev R_f6 : Type := TSt
def J_f6 : A8 Tryz.prog :=
 BD Tryz.prog Tryz.f76 143 [(3, 3), (5, 3), (13, 1), (52, 1), (63, 1), (73, 1), (86, 1), (96, 1), (122, 1), (140, 1)] [(17, [.open_ 11]), (18, [.shut 11, .Og 11]), (26, [.open_ 12]), (27, [.shut 12, .Og 12])] [] [] [sh_TSt] [] [con_f36, con_f1m, con_f3k, con_f2w, con_fo, con_fj, con_f3r] R_f6 [] fun y => [e_TSt y]
def S_f6 : AM :=
 Ae Tryz.f76 3 0 X_f6 (fun x => [e_TPg x.1, e_TSt x.2.1, e_TEv x.2.2]) fun l => (d_TPg (at_ l 0), d_TSt (at_ l 1), d_TEv (at_ l 2))
structure X_f6_16 where
 H3 : TPg
 Ev : TEv
 Mf : Int
 Bq : TSt
 HI : TSt
 G1 : TTh
 Ic : TR3
def S_f6_16 : AM :=
 Ad Tryz.f76 16 (an [3, 4, 5, 6, 7, 9, 10]) [] [(.loc 4 0, sh_TSt), (.loc 6 0, sh_TSt), (.loc 7 0, sh_TTh), (.loc 10 0, sh_TR3)] X_f6_16 (fun x => [(C2 e_TPg) x.H3, (V.ptr (.loc 4 0) []), (C2 e_TEv) x.Ev, (V.ptr (.loc 6 0) []), (V.ptr (.loc 7 0) []), (V.int .u64) x.Mf, (V.ptr (.loc 10 0) []), e_TSt x.Bq, e_TSt x.HI, e_TTh x.G1, e_TR3 x.Ic]) fun l => ⟨(C3 d_TPg) (at_ l 0), (C3 d_TEv) (at_ l 2), dI (at_ l 5), d_TSt (at_ l 7), d_TSt (at_ l 8), d_TTh (at_ l 9), d_TR3 (at_ l 10)⟩
structure X_f6_19 where
 H3 : TPg
 Ev : TEv
 Mf : Int
 Bq : TSt
 HI : TSt
 G1 : TTh
def S_f6_19 : AM :=
 Ad Tryz.f76 19 (an [3, 4, 5, 6, 7, 9]) [] [(.loc 4 0, sh_TSt), (.loc 6 0, sh_TSt), (.loc 7 0, sh_TTh)] X_f6_19 (fun x => [(C2 e_TPg) x.H3, (V.ptr (.loc 4 0) []), (C2 e_TEv) x.Ev, (V.ptr (.loc 6 0) []), (V.ptr (.loc 7 0) []), (V.int .u64) x.Mf, e_TSt x.Bq, e_TSt x.HI, e_TTh x.G1]) fun l => ⟨(C3 d_TPg) (at_ l 0), (C3 d_TEv) (at_ l 2), dI (at_ l 5), d_TSt (at_ l 6), d_TSt (at_ l 7), d_TTh (at_ l 8)⟩
structure X_f6_21 where
 H3 : TPg
 Ev : TEv
 Mf : Int
 Bq : TSt
 HI : TSt
 G1 : TTh
def S_f6_21 : AM :=
 Ad Tryz.f76 21 (an [3, 4, 5, 6, 7, 9]) [] [(.loc 4 0, sh_TSt), (.loc 6 0, sh_TSt), (.loc 7 0, sh_TTh)] X_f6_21 (fun x => [(C2 e_TPg) x.H3, (V.ptr (.loc 4 0) []), (C2 e_TEv) x.Ev, (V.ptr (.loc 6 0) []), (V.ptr (.loc 7 0) []), (V.int .u64) x.Mf, e_TSt x.Bq, e_TSt x.HI, e_TTh x.G1]) fun l => ⟨(C3 d_TPg) (at_ l 0), (C3 d_TEv) (at_ l 2), dI (at_ l 5), d_TSt (at_ l 6), d_TSt (at_ l 7), d_TTh (at_ l 8)⟩
structure X_f6_23 where
 H3 : TPg
 Ev : TEv
 Mf : Int
 Bq : TSt
 HI : TSt
 G1 : TTh
def S_f6_23 : AM :=
 Ad Tryz.f76 23 (an [3, 4, 5, 6, 7, 9]) [] [(.loc 4 0, sh_TSt), (.loc 6 0, sh_TSt), (.loc 7 0, sh_TTh)] X_f6_23 (fun x => [(C2 e_TPg) x.H3, (V.ptr (.loc 4 0) []), (C2 e_TEv) x.Ev, (V.ptr (.loc 6 0) []), (V.ptr (.loc 7 0) []), (V.int .u64) x.Mf, e_TSt x.Bq, e_TSt x.HI, e_TTh x.G1]) fun l => ⟨(C3 d_TPg) (at_ l 0), (C3 d_TEv) (at_ l 2), dI (at_ l 5), d_TSt (at_ l 6), d_TSt (at_ l 7), d_TTh (at_ l 8)⟩
structure X_f6_25 where
 H3 : TPg
 Ev : TEv
 Mf : Int
 Bq : TSt
 HI : TSt
 G1 : TTh
def S_f6_25 : AM :=
 Ad Tryz.f76 25 (an [3, 4, 5, 6, 7, 9]) [] [(.loc 4 0, sh_TSt), (.loc 6 0, sh_TSt), (.loc 7 0, sh_TTh)] X_f6_25 (fun x => [(C2 e_TPg) x.H3, (V.ptr (.loc 4 0) []), (C2 e_TEv) x.Ev, (V.ptr (.loc 6 0) []), (V.ptr (.loc 7 0) []), (V.int .u64) x.Mf, e_TSt x.Bq, e_TSt x.HI, e_TTh x.G1]) fun l => ⟨(C3 d_TPg) (at_ l 0), (C3 d_TEv) (at_ l 2), dI (at_ l 5), d_TSt (at_ l 6), d_TSt (at_ l 7), d_TTh (at_ l 8)⟩
def tt_f6_25 (x : X_f6_25) : TT Tryz.prog R_f6 :=
 (.need (true && (room ((0 : Nat) + x.Bq.AB.n) 128)) <|
 (.need (Az x.Ev.Thread x.H3.AB.n) <|
 (.call con_fo ((x.H3.AB.get (Int.toNat x.Ev.Thread)), (x.G1, (x.Ev, x.Mf))) fun (y1 : R_fo) =>
 (.need (Az x.Ev.Thread ((0 : Nat) + x.Bq.AB.n)) <|
 (.need ((Nat.beq ((0 : Nat) + x.Bq.AB.n) ((0 : Nat) + x.Bq.AB.n)) && true) <|
 (.need (Nat.beq ((0 : Nat) + x.Bq.AB.n) ((0 : Nat) + x.Bq.AB.n)) <|
 (.side (∀ i2 : Nat, ((i2 < ((0 : Nat) + x.Bq.AB.n)) → ((true && (true && (true && (true && (true && ((true && (true && (true && (true && (true && (true && (true && (true && true)))))))) && (true && true))))))) = true))) <|
 (.ret (TSt.mk (Sl.mk (cond (Nat.beq x.Bq.AB.n 0) false false) ((0 : Nat) + x.Bq.AB.n) (fun i2 => (TTh.mk (cond (Nat.beq i2 ((0 : Nat) + (Int.toNat x.Ev.Thread))) y1.At (cond (Nat.blt i2 0) (0 : Int) (x.Bq.AB.get (i2 - 0)).At)) (cond (Nat.beq i2 ((0 : Nat) + (Int.toNat x.Ev.Thread))) y1.Phase (cond (Nat.blt i2 0) (0 : Int) (x.Bq.AB.get (i2 - 0)).Phase)) (cond (Nat.beq i2 ((0 : Nat) + (Int.toNat x.Ev.Thread))) y1.Ring (cond (Nat.blt i2 0) (0 : Int) (x.Bq.AB.get (i2 - 0)).Ring)) (cond (Nat.beq i2 ((0 : Nat) + (Int.toNat x.Ev.Thread))) y1.Status (cond (Nat.blt i2 0) (0 : Int) (x.Bq.AB.get (i2 - 0)).Status)) (cond (Nat.beq i2 ((0 : Nat) + (Int.toNat x.Ev.Thread))) y1.AG (cond (Nat.blt i2 0) (0 : Int) (x.Bq.AB.get (i2 - 0)).AG)) (fun i3 => (cond (Nat.beq i2 ((0 : Nat) + (Int.toNat x.Ev.Thread))) (y1.Af i3) (cond (Nat.blt i2 0) (0 : Int) ((x.Bq.AB.get (i2 - 0)).Af i3)))) (Sl.mk (cond (Nat.beq i2 ((0 : Nat) + (Int.toNat x.Ev.Thread))) y1.Seen.nil (cond (Nat.blt i2 0) true (x.Bq.AB.get (i2 - 0)).Seen.nil)) (cond (Nat.beq i2 ((0 : Nat) + (Int.toNat x.Ev.Thread))) y1.Seen.n (cond (Nat.blt i2 0) (0 : Nat) (x.Bq.AB.get (i2 - 0)).Seen.n)) (fun i3 => (cond (Nat.beq i2 ((0 : Nat) + (Int.toNat x.Ev.Thread))) (y1.Seen.get i3) (cond (Nat.blt i2 0) (0 : Int) ((x.Bq.AB.get (i2 - 0)).Seen.get i3)))))))) x.Bq.AJ x.Bq.Gz x.Bq.Reads x.Bq.CB)))))))))
theorem sd_f6_25 (x : X_f6_25) : (tt_f6_25 x).AH :=
 (TT.sN (TT.sN (TT.sC fun _ => (TT.sN (TT.sN (TT.sN (TT.sS (fun _ _ => rfl) TT.sR)))))))
def D_f6_25 : AU X_f6_25 R_f6 := .of tt_f6_25
theorem ok_f6_25 : AW J_f6 S_f6_25 D_f6_25 :=
 lk mxk lbn sd_f6_25
def tt_f6_23 (x : X_f6_23) : TT Tryz.prog R_f6 :=
 (.ite (AX x.Ev.Kind 11)
 (.jump S_f6_25 D_f6_25 (X_f6_25.mk x.H3 x.Ev x.Mf (TSt.mk x.Bq.AB x.Bq.AJ x.Bq.Gz x.Bq.Reads true) x.HI x.G1))
 (.jump S_f6_25 D_f6_25 (X_f6_25.mk x.H3 x.Ev x.Mf x.Bq x.HI x.G1)))
theorem sd_f6_23 (x : X_f6_23) : (tt_f6_23 x).AH :=
 (TT.sI TT.sJ TT.sJ)
def D_f6_23 : AU X_f6_23 R_f6 := .of tt_f6_23
theorem ok_f6_23 : AW J_f6 S_f6_23 D_f6_23 :=
 lk mxk (lbc ok_f6_25 rfl lbn) sd_f6_23
def tt_f6_21 (x : X_f6_21) : TT Tryz.prog R_f6 :=
 (.ite (AX x.Ev.Kind 10)
 (.jump S_f6_23 D_f6_23 (X_f6_23.mk x.H3 x.Ev x.Mf (TSt.mk x.Bq.AB x.Bq.AJ x.Bq.Gz (IntKind.u64.wrap (x.Bq.Reads + 1)) x.Bq.CB) x.HI x.G1))
 (.jump S_f6_23 D_f6_23 (X_f6_23.mk x.H3 x.Ev x.Mf x.Bq x.HI x.G1)))
theorem sd_f6_21 (x : X_f6_21) : (tt_f6_21 x).AH :=
 (TT.sI TT.sJ TT.sJ)
def D_f6_21 : AU X_f6_21 R_f6 := .of tt_f6_21
theorem ok_f6_21 : AW J_f6 S_f6_21 D_f6_21 :=
 lk mxk (lbc ok_f6_25 rfl (lbc ok_f6_23 rfl lbn)) sd_f6_21
def tt_f6_19 (x : X_f6_19) : TT Tryz.prog R_f6 :=
 (.ite (AX x.Ev.Kind 8)
 (.ite (BR x.Bq.Gz x.Ev.Value)
 (.jump S_f6_21 D_f6_21 (X_f6_21.mk x.H3 x.Ev x.Mf (TSt.mk x.Bq.AB x.Bq.AJ x.Ev.Value x.Bq.Reads x.Bq.CB) x.HI x.G1))
 (.jump S_f6_21 D_f6_21 (X_f6_21.mk x.H3 x.Ev x.Mf x.Bq x.HI x.G1)))
 (.jump S_f6_21 D_f6_21 (X_f6_21.mk x.H3 x.Ev x.Mf x.Bq x.HI x.G1)))
theorem sd_f6_19 (x : X_f6_19) : (tt_f6_19 x).AH :=
 (TT.sI (TT.sI TT.sJ TT.sJ) TT.sJ)
def D_f6_19 : AU X_f6_19 R_f6 := .of tt_f6_19
theorem ok_f6_19 : AW J_f6 S_f6_19 D_f6_19 :=
 lk mxk (lbc ok_f6_25 rfl (lbc ok_f6_23 rfl (lbc ok_f6_21 rfl lbn))) sd_f6_19
def tt_f6_16 (x : X_f6_16) : TT Tryz.prog R_f6 :=
 (.need (true && (room ((0 : Nat) + x.Bq.AJ.n) 64)) <|
 (.call con_f3k x.Ic fun (y1 : R_f3k) =>
 (.need (Az x.Ev.Ring ((0 : Nat) + x.Bq.AJ.n)) <|
 (.need ((Nat.beq ((0 : Nat) + x.Bq.AJ.n) ((0 : Nat) + x.Bq.AJ.n)) && true) <|
 (.need (Nat.beq ((0 : Nat) + x.Bq.AJ.n) ((0 : Nat) + x.Bq.AJ.n)) <|
 (.side (∀ i2 : Nat, ((i2 < ((0 : Nat) + x.Bq.AJ.n)) → ((true && (true && (true && (true && true)))) = true))) <|
 (.jump S_f6_19 D_f6_19 (X_f6_19.mk x.H3 x.Ev x.Mf (TSt.mk x.Bq.AB (Sl.mk (cond (Nat.beq x.Bq.AJ.n 0) false false) ((0 : Nat) + x.Bq.AJ.n) (fun i2 => (TRs.mk (cond (Nat.beq i2 ((0 : Nat) + (Int.toNat x.Ev.Ring))) y1.Au (cond (Nat.blt i2 0) (0 : Int) (x.Bq.AJ.get (i2 - 0)).Au)) (Sl.mk (cond (Nat.beq i2 ((0 : Nat) + (Int.toNat x.Ev.Ring))) y1.AY.nil (cond (Nat.blt i2 0) true (x.Bq.AJ.get (i2 - 0)).AY.nil)) (cond (Nat.beq i2 ((0 : Nat) + (Int.toNat x.Ev.Ring))) y1.AY.n (cond (Nat.blt i2 0) (0 : Nat) (x.Bq.AJ.get (i2 - 0)).AY.n)) (fun i3 => (cond (Nat.beq i2 ((0 : Nat) + (Int.toNat x.Ev.Ring))) (y1.AY.get i3) (cond (Nat.blt i2 0) (0 : Int) ((x.Bq.AJ.get (i2 - 0)).AY.get i3))))) (cond (Nat.beq i2 ((0 : Nat) + (Int.toNat x.Ev.Ring))) y1.Aw (cond (Nat.blt i2 0) false (x.Bq.AJ.get (i2 - 0)).Aw)) (Sl.mk (cond (Nat.beq i2 ((0 : Nat) + (Int.toNat x.Ev.Ring))) y1.Am.nil (cond (Nat.blt i2 0) true (x.Bq.AJ.get (i2 - 0)).Am.nil)) (cond (Nat.beq i2 ((0 : Nat) + (Int.toNat x.Ev.Ring))) y1.Am.n (cond (Nat.blt i2 0) (0 : Nat) (x.Bq.AJ.get (i2 - 0)).Am.n)) (fun i3 => (TSo.mk (cond (Nat.beq i2 ((0 : Nat) + (Int.toNat x.Ev.Ring))) (y1.Am.get i3).AO (cond (Nat.blt i2 0) (0 : Int) ((x.Bq.AJ.get (i2 - 0)).Am.get i3).AO)) (cond (Nat.beq i2 ((0 : Nat) + (Int.toNat x.Ev.Ring))) (y1.Am.get i3).Value (cond (Nat.blt i2 0) (0 : Int) ((x.Bq.AJ.get (i2 - 0)).Am.get i3).Value)) (cond (Nat.beq i2 ((0 : Nat) + (Int.toNat x.Ev.Ring))) (y1.Am.get i3).Left (cond (Nat.blt i2 0) (0 : Int) ((x.Bq.AJ.get (i2 - 0)).Am.get i3).Left)))))))) x.Bq.Gz x.Bq.Reads x.Bq.CB) x.HI x.G1))))))))
theorem sd_f6_16 (x : X_f6_16) : (tt_f6_16 x).AH :=
 (TT.sN (TT.sC fun _ => (TT.sN (TT.sN (TT.sN (TT.sS (fun _ _ => rfl) TT.sJ))))))
def D_f6_16 : AU X_f6_16 R_f6 := .of tt_f6_16
theorem ok_f6_16 : AW J_f6 S_f6_16 D_f6_16 :=
 lk mxk (lbc ok_f6_25 rfl (lbc ok_f6_23 rfl (lbc ok_f6_21 rfl (lbc ok_f6_19 rfl lbn)))) sd_f6_16
def tt_f6 (x : X_f6) : TT Tryz.prog R_f6 :=
 (.need (Az x.snd.snd.Thread x.fst.AB.n) <|
 (.need (Az x.snd.snd.Thread x.snd.fst.AB.n) <|
 (.call con_fj ((x.fst.AB.get (Int.toNat x.snd.snd.Thread)), (x.snd.fst.AB.get (Int.toNat x.snd.snd.Thread))) fun (y1 : R_fj) =>
 (.ite (BW x.snd.snd.Kind 4)
 (.call con_f3r (x.fst, (x.snd.fst, x.snd.snd.Ring)) fun (y2 : R_f3r) =>
 (.ite (AX x.snd.snd.Kind 1)
 (.jump S_f6_16 D_f6_16 (X_f6_16.mk x.fst x.snd.snd 0 x.snd.fst (TSt.mk (Sl.mk true 0 (fun _i3 => (TTh.mk 0 0 0 0 0 (fun _i4 => (0 : Int)) (Sl.mk true 0 (fun _i4 => (0 : Int)))))) (Sl.mk true 0 (fun _i3 => (TRs.mk 0 (Sl.mk true 0 (fun _i4 => (0 : Int))) false (Sl.mk true 0 (fun _i4 => (TSo.mk 0 0 0)))))) 0 0 false) y1.fst (TR3.mk y2.Cf (IntKind.u64.wrap (y2.Au + 1)) y2.AY y2.Aw y2.S)))
 (.ite (AX x.snd.snd.Kind 2)
 (.call con_f36 (y2, (x.snd.snd.AG, y1.snd.Value)) fun (y3 : R_f36) =>
 (.jump S_f6_16 D_f6_16 (X_f6_16.mk x.fst x.snd.snd 0 x.snd.fst (TSt.mk (Sl.mk true 0 (fun _i4 => (TTh.mk 0 0 0 0 0 (fun _i5 => (0 : Int)) (Sl.mk true 0 (fun _i5 => (0 : Int)))))) (Sl.mk true 0 (fun _i4 => (TRs.mk 0 (Sl.mk true 0 (fun _i5 => (0 : Int))) false (Sl.mk true 0 (fun _i5 => (TSo.mk 0 0 0)))))) 0 0 false) y1.fst y3.snd)))
 (.ite (AX x.snd.snd.Kind 3)
 (.call con_f2w (y2, y1.snd.Reader) fun (y3 : R_f2w) =>
 (.jump S_f6_16 D_f6_16 (X_f6_16.mk x.fst x.snd.snd 0 x.snd.fst (TSt.mk (Sl.mk true 0 (fun _i4 => (TTh.mk 0 0 0 0 0 (fun _i5 => (0 : Int)) (Sl.mk true 0 (fun _i5 => (0 : Int)))))) (Sl.mk true 0 (fun _i4 => (TRs.mk 0 (Sl.mk true 0 (fun _i5 => (0 : Int))) false (Sl.mk true 0 (fun _i5 => (TSo.mk 0 0 0)))))) 0 0 false) y1.fst y3.snd.snd)))
 (.ite (AX x.snd.snd.Kind 4)
 (.call con_f1m (y2, (y1.snd.Reader, x.snd.snd.AG)) fun (y3 : R_f1m) =>
 (.jump S_f6_16 D_f6_16 (X_f6_16.mk x.fst x.snd.snd y3.fst x.snd.fst (TSt.mk (Sl.mk true 0 (fun _i4 => (TTh.mk 0 0 0 0 0 (fun _i5 => (0 : Int)) (Sl.mk true 0 (fun _i5 => (0 : Int)))))) (Sl.mk true 0 (fun _i4 => (TRs.mk 0 (Sl.mk true 0 (fun _i5 => (0 : Int))) false (Sl.mk true 0 (fun _i5 => (TSo.mk 0 0 0)))))) 0 0 false) y1.fst y3.snd.snd)))
 (.ite (AX x.snd.snd.Kind 13)
 (.jump S_f6_16 D_f6_16 (X_f6_16.mk x.fst x.snd.snd 0 x.snd.fst (TSt.mk (Sl.mk true 0 (fun _i3 => (TTh.mk 0 0 0 0 0 (fun _i4 => (0 : Int)) (Sl.mk true 0 (fun _i4 => (0 : Int)))))) (Sl.mk true 0 (fun _i3 => (TRs.mk 0 (Sl.mk true 0 (fun _i4 => (0 : Int))) false (Sl.mk true 0 (fun _i4 => (TSo.mk 0 0 0)))))) 0 0 false) y1.fst (TR3.mk y2.Cf y2.Au y2.AY true y2.S)))
 (.jump S_f6_16 D_f6_16 (X_f6_16.mk x.fst x.snd.snd 0 x.snd.fst (TSt.mk (Sl.mk true 0 (fun _i3 => (TTh.mk 0 0 0 0 0 (fun _i4 => (0 : Int)) (Sl.mk true 0 (fun _i4 => (0 : Int)))))) (Sl.mk true 0 (fun _i3 => (TRs.mk 0 (Sl.mk true 0 (fun _i4 => (0 : Int))) false (Sl.mk true 0 (fun _i4 => (TSo.mk 0 0 0)))))) 0 0 false) y1.fst y2))))))))
 (.ite (AX x.snd.snd.Kind 13)
 (.call con_f3r (x.fst, (x.snd.fst, x.snd.snd.Ring)) fun (y2 : R_f3r) =>
 (.ite (AX x.snd.snd.Kind 1)
 (.jump S_f6_16 D_f6_16 (X_f6_16.mk x.fst x.snd.snd 0 x.snd.fst (TSt.mk (Sl.mk true 0 (fun _i3 => (TTh.mk 0 0 0 0 0 (fun _i4 => (0 : Int)) (Sl.mk true 0 (fun _i4 => (0 : Int)))))) (Sl.mk true 0 (fun _i3 => (TRs.mk 0 (Sl.mk true 0 (fun _i4 => (0 : Int))) false (Sl.mk true 0 (fun _i4 => (TSo.mk 0 0 0)))))) 0 0 false) y1.fst (TR3.mk y2.Cf (IntKind.u64.wrap (y2.Au + 1)) y2.AY y2.Aw y2.S)))
 (.ite (AX x.snd.snd.Kind 2)
 (.call con_f36 (y2, (x.snd.snd.AG, y1.snd.Value)) fun (y3 : R_f36) =>
 (.jump S_f6_16 D_f6_16 (X_f6_16.mk x.fst x.snd.snd 0 x.snd.fst (TSt.mk (Sl.mk true 0 (fun _i4 => (TTh.mk 0 0 0 0 0 (fun _i5 => (0 : Int)) (Sl.mk true 0 (fun _i5 => (0 : Int)))))) (Sl.mk true 0 (fun _i4 => (TRs.mk 0 (Sl.mk true 0 (fun _i5 => (0 : Int))) false (Sl.mk true 0 (fun _i5 => (TSo.mk 0 0 0)))))) 0 0 false) y1.fst y3.snd)))
 (.ite (AX x.snd.snd.Kind 3)
 (.call con_f2w (y2, y1.snd.Reader) fun (y3 : R_f2w) =>
 (.jump S_f6_16 D_f6_16 (X_f6_16.mk x.fst x.snd.snd 0 x.snd.fst (TSt.mk (Sl.mk true 0 (fun _i4 => (TTh.mk 0 0 0 0 0 (fun _i5 => (0 : Int)) (Sl.mk true 0 (fun _i5 => (0 : Int)))))) (Sl.mk true 0 (fun _i4 => (TRs.mk 0 (Sl.mk true 0 (fun _i5 => (0 : Int))) false (Sl.mk true 0 (fun _i5 => (TSo.mk 0 0 0)))))) 0 0 false) y1.fst y3.snd.snd)))
 (.ite (AX x.snd.snd.Kind 4)
 (.call con_f1m (y2, (y1.snd.Reader, x.snd.snd.AG)) fun (y3 : R_f1m) =>
 (.jump S_f6_16 D_f6_16 (X_f6_16.mk x.fst x.snd.snd y3.fst x.snd.fst (TSt.mk (Sl.mk true 0 (fun _i4 => (TTh.mk 0 0 0 0 0 (fun _i5 => (0 : Int)) (Sl.mk true 0 (fun _i5 => (0 : Int)))))) (Sl.mk true 0 (fun _i4 => (TRs.mk 0 (Sl.mk true 0 (fun _i5 => (0 : Int))) false (Sl.mk true 0 (fun _i5 => (TSo.mk 0 0 0)))))) 0 0 false) y1.fst y3.snd.snd)))
 (.ite (AX x.snd.snd.Kind 13)
 (.jump S_f6_16 D_f6_16 (X_f6_16.mk x.fst x.snd.snd 0 x.snd.fst (TSt.mk (Sl.mk true 0 (fun _i3 => (TTh.mk 0 0 0 0 0 (fun _i4 => (0 : Int)) (Sl.mk true 0 (fun _i4 => (0 : Int)))))) (Sl.mk true 0 (fun _i3 => (TRs.mk 0 (Sl.mk true 0 (fun _i4 => (0 : Int))) false (Sl.mk true 0 (fun _i4 => (TSo.mk 0 0 0)))))) 0 0 false) y1.fst (TR3.mk y2.Cf y2.Au y2.AY true y2.S)))
 (.jump S_f6_16 D_f6_16 (X_f6_16.mk x.fst x.snd.snd 0 x.snd.fst (TSt.mk (Sl.mk true 0 (fun _i3 => (TTh.mk 0 0 0 0 0 (fun _i4 => (0 : Int)) (Sl.mk true 0 (fun _i4 => (0 : Int)))))) (Sl.mk true 0 (fun _i3 => (TRs.mk 0 (Sl.mk true 0 (fun _i4 => (0 : Int))) false (Sl.mk true 0 (fun _i4 => (TSo.mk 0 0 0)))))) 0 0 false) y1.fst y2))))))))
 (.jump S_f6_19 D_f6_19 (X_f6_19.mk x.fst x.snd.snd 0 x.snd.fst (TSt.mk (Sl.mk true 0 (fun _i2 => (TTh.mk 0 0 0 0 0 (fun _i3 => (0 : Int)) (Sl.mk true 0 (fun _i3 => (0 : Int)))))) (Sl.mk true 0 (fun _i2 => (TRs.mk 0 (Sl.mk true 0 (fun _i3 => (0 : Int))) false (Sl.mk true 0 (fun _i3 => (TSo.mk 0 0 0)))))) 0 0 false) y1.fst)))))))
theorem sd_f6 (x : X_f6) : (tt_f6 x).AH :=
 (TT.sN (TT.sN (TT.sC fun _ => (TT.sI (TT.sC fun _ => (TT.sI TT.sJ (TT.sI (TT.sC fun _ => TT.sJ) (TT.sI (TT.sC fun _ => TT.sJ) (TT.sI (TT.sC fun _ => TT.sJ) (TT.sI TT.sJ TT.sJ)))))) (TT.sI (TT.sC fun _ => (TT.sI TT.sJ (TT.sI (TT.sC fun _ => TT.sJ) (TT.sI (TT.sC fun _ => TT.sJ) (TT.sI (TT.sC fun _ => TT.sJ) (TT.sI TT.sJ TT.sJ)))))) TT.sJ)))))
def D_f6 : AU X_f6 R_f6 := .of tt_f6
def con_f6 : A3 Tryz.prog :=
 BS 76 J_f6 S_f6 D_f6 3 0 [sh_TPg, sh_TSt, .any] (lk mxk (lbc ok_f6_25 rfl (lbc ok_f6_23 rfl (lbc ok_f6_21 rfl (lbc ok_f6_19 rfl (lbc ok_f6_16 rfl lbn))))) sd_f6)
abbrev X_f4i : Type := TPg × TSt × TEv
abbrev R_f4i : Type := Int × TSt
def J_f4i : A8 Tryz.prog :=
 BD Tryz.prog Tryz.f42 27 [(3, 3), (4, 3), (5, 3)] [] [] [] [.any, sh_TSt] [] [con_f3f, con_f3y, con_f6] R_f4i [] fun y => [V.B9 (V.cons ((V.int .i64) y.1) (V.cons (e_TSt y.2) (V.unit)))]
def S_f4i : AM :=
 Ae Tryz.f42 3 0 X_f4i (fun x => [e_TPg x.1, e_TSt x.2.1, e_TEv x.2.2]) fun l => (d_TPg (at_ l 0), d_TSt (at_ l 1), d_TEv (at_ l 2))
def tt_f4i (x : X_f4i) : TT Tryz.prog R_f4i :=
 (.call con_f3y (x.fst, (x.snd.fst, x.snd.snd)) fun (y1 : R_f3y) =>
 (.ite (!(AX y1 0))
 (.ret (y1, x.snd.fst))
 (.call con_f3f (x.fst, (x.snd.fst, x.snd.snd)) fun (y2 : R_f3f) =>
 (.ite (!y2)
 (.ret (11, x.snd.fst))
 (.call con_f6 (x.fst, (x.snd.fst, x.snd.snd)) fun (y3 : R_f6) =>
 (.ret (0, y3)))))))
theorem sd_f4i (x : X_f4i) : (tt_f4i x).AH :=
 (TT.sC fun _ => (TT.sI TT.sR (TT.sC fun _ => (TT.sI TT.sR (TT.sC fun _ => TT.sR)))))
def D_f4i : AU X_f4i R_f4i := .of tt_f4i
def con_f4i : A3 Tryz.prog :=
 BS 42 J_f4i S_f4i D_f4i 3 0 [sh_TPg, sh_TSt, .any] (lk mxk lbn sd_f4i)
abbrev X_f1n : Type := TPg × (Sl TEv)
abbrev R_f1n : Type := TSt × Int
def J_f1n : A8 Tryz.prog :=
 BD Tryz.prog Tryz.f18 36 [(2, 3), (18, 1), (34, 1)] [] [] [] [sh_TSt, .any] [] [con_f4i, con_f2l] R_f1n [] fun y => [V.B9 (V.cons (e_TSt y.1) (V.cons ((V.int .i64) y.2) (V.unit)))]
def S_f1n : AM :=
 Ae Tryz.f18 2 0 X_f1n (fun x => [e_TPg x.1, esl_TEv x.2]) fun l => (d_TPg (at_ l 0), dsl_TEv (at_ l 1))
structure X_f1n_3 where
 FV : (Sl TEv)
 H4 : TPg
 TL : Int
 Bq : TSt
 HI : TSt
def S_f1n_3 : AM :=
 Ad Tryz.f18 3 [(1, hsl_TEv), (2, .any), (4, .any), (6, .any), (7, .any)] [] [(.loc 4 0, sh_TSt), (.loc 6 0, sh_TSt)] X_f1n_3 (fun x => [esl_TEv x.FV, (C2 e_TPg) x.H4, (V.ptr (.loc 4 0) []), (V.ptr (.loc 6 0) []), (V.int .i64) x.TL, e_TSt x.Bq, e_TSt x.HI]) fun l => ⟨dsl_TEv (at_ l 0), (C3 d_TPg) (at_ l 1), dI (at_ l 4), d_TSt (at_ l 5), d_TSt (at_ l 6)⟩
structure X_f1n_9 where
 FV : (Sl TEv)
 Bq : TSt
 HI : TSt
def S_f1n_9 : AM :=
 Ad Tryz.f18 9 [(1, hsl_TEv), (4, .any), (6, .any)] [] [(.loc 4 0, sh_TSt), (.loc 6 0, sh_TSt)] X_f1n_9 (fun x => [esl_TEv x.FV, (V.ptr (.loc 4 0) []), (V.ptr (.loc 6 0) []), e_TSt x.Bq, e_TSt x.HI]) fun l => ⟨dsl_TEv (at_ l 0), d_TSt (at_ l 3), d_TSt (at_ l 4)⟩
def tt_f1n_9 (x : X_f1n_9) : TT Tryz.prog R_f1n :=
 (.ret (x.HI, ((x.FV.n : Nat) : Int)))
theorem sd_f1n_9 (x : X_f1n_9) : (tt_f1n_9 x).AH :=
 TT.sR
def D_f1n_9 : AU X_f1n_9 R_f1n := .of tt_f1n_9
theorem ok_f1n_9 : AW J_f1n S_f1n_9 D_f1n_9 :=
 lk mxk lbn sd_f1n_9
def tt_f1n_3 (D_f1n_3 : AU X_f1n_3 R_f1n) (x : X_f1n_3) : TT Tryz.prog R_f1n :=
 (.ite (BR x.TL ((x.FV.n : Nat) : Int))
 (.need (Az x.TL x.FV.n) <|
 (.call con_f4i (x.H4, (x.HI, (x.FV.get (Int.toNat x.TL)))) fun (y2 : R_f4i) =>
 (.ite (!(AX y2.fst 0))
 (.ret (x.HI, x.TL))
 (.jump S_f1n_3 D_f1n_3 (X_f1n_3.mk x.FV x.H4 (IntKind.i64.wrap (x.TL + 1)) x.Bq y2.snd)))))
 (.jump S_f1n_9 D_f1n_9 (X_f1n_9.mk x.FV x.Bq x.HI)))
theorem sd_f1n_3 (D_f1n_3 : AU X_f1n_3 R_f1n) (x : X_f1n_3) : (tt_f1n_3 D_f1n_3 x).AH :=
 (TT.sI (TT.sN (TT.sC fun _ => (TT.sI TT.sR TT.sJ))) TT.sJ)
def D_f1n_3 : AU X_f1n_3 R_f1n := AU.loop tt_f1n_3
theorem ok_f1n_3 : AW J_f1n S_f1n_3 D_f1n_3 :=
 A2 fun D_f1n_3 h_3 => lk mxk (lbc h_3 rfl (lbc ok_f1n_9 rfl lbn)) (sd_f1n_3 D_f1n_3)
def tt_f1n (x : X_f1n) : TT Tryz.prog R_f1n :=
 (.call con_f2l x.fst fun (y1 : R_f2l) =>
 (.jump S_f1n_3 D_f1n_3 (X_f1n_3.mk x.snd x.fst 0 (TSt.mk (Sl.mk true 0 (fun _i2 => (TTh.mk 0 0 0 0 0 (fun _i3 => (0 : Int)) (Sl.mk true 0 (fun _i3 => (0 : Int)))))) (Sl.mk true 0 (fun _i2 => (TRs.mk 0 (Sl.mk true 0 (fun _i3 => (0 : Int))) false (Sl.mk true 0 (fun _i3 => (TSo.mk 0 0 0)))))) 0 0 false) y1)))
theorem sd_f1n (x : X_f1n) : (tt_f1n x).AH :=
 (TT.sC fun _ => TT.sJ)
def D_f1n : AU X_f1n R_f1n := .of tt_f1n
def con_f1n : A3 Tryz.prog :=
 BS 18 J_f1n S_f1n D_f1n 2 0 [sh_TPg, hsl_TEv] (lk mxk (lbc ok_f1n_9 rfl (lbc ok_f1n_3 rfl lbn)) sd_f1n)
abbrev X_f4n : Type := ByteArray × Int
abbrev R_f4n : Type := Bool
def J_f4n : A8 Tryz.prog :=
 BD Tryz.prog Tryz.f79 17 [] [] [] [] [.any] [] [] R_f4n [] fun y => [V.bool y]
def S_f4n : AM :=
 Ae Tryz.f79 2 0 X_f4n (fun x => [V.str x.1, (V.int .u8) x.2]) fun l => (dS (at_ l 0), dI (at_ l 1))
structure X_f4n_2 where
 SG : ByteArray
 VS : Int
 N1 : Int
def S_f4n_2 : AM :=
 Ad Tryz.f79 2 (an [0, 1, 5]) [] [] X_f4n_2 (fun x => [V.str x.SG, (V.int .u8) x.VS, (V.int .i64) x.N1]) fun l => ⟨dS (at_ l 0), dI (at_ l 1), dI (at_ l 2)⟩
def tt_f4n_2 (D_f4n_2 : AU X_f4n_2 R_f4n) (x : X_f4n_2) : TT Tryz.prog R_f4n :=
 (.ite (BR x.N1 (((ByteArray.size x.SG) : Nat) : Int))
 (.need (Az x.N1 (ByteArray.size x.SG)) <|
 (.ite (AX (bt x.SG (Int.toNat x.N1)) x.VS)
 (.ret true)
 (.jump S_f4n_2 D_f4n_2 (X_f4n_2.mk x.SG x.VS (IntKind.i64.wrap (x.N1 + 1))))))
 (.ret false))
theorem sd_f4n_2 (D_f4n_2 : AU X_f4n_2 R_f4n) (x : X_f4n_2) : (tt_f4n_2 D_f4n_2 x).AH :=
 (TT.sI (TT.sN (TT.sI TT.sR TT.sJ)) TT.sR)
def D_f4n_2 : AU X_f4n_2 R_f4n := AU.loop tt_f4n_2
theorem ok_f4n_2 : AW J_f4n S_f4n_2 D_f4n_2 :=
 A2 fun D_f4n_2 h_2 => lk mxk (lbc h_2 rfl lbn) (sd_f4n_2 D_f4n_2)
def tt_f4n (x : X_f4n) : TT Tryz.prog R_f4n :=
 (.jump S_f4n_2 D_f4n_2 (X_f4n_2.mk x.fst x.snd 0))
theorem sd_f4n (x : X_f4n) : (tt_f4n x).AH :=
 TT.sJ
def D_f4n : AU X_f4n R_f4n := .of tt_f4n
def con_f4n : A3 Tryz.prog :=
 BS 79 J_f4n S_f4n D_f4n 2 0 [.any, .any] (lk mxk (lbc ok_f4n_2 rfl lbn) sd_f4n)
abbrev X_f4k : Type := TPg × TSt × Int × Int
abbrev R_f4k : Type := Bool
def J_f4k : A8 Tryz.prog :=
 BD Tryz.prog Tryz.f43 101 [(4, 3), (5, 3), (33, 1), (42, 1)] [] [] [] [.any] [] [con_f3w, con_f3f, con_f4a, con_f4n] R_f4k [] fun y => [V.bool y]
def S_f4k : AM :=
 Ae Tryz.f43 4 0 X_f4k (fun x => [e_TPg x.1, e_TSt x.2.1, (V.int .i64) x.2.2.1, (V.int .i64) x.2.2.2]) fun l => (d_TPg (at_ l 0), d_TSt (at_ l 1), dI (at_ l 2), dI (at_ l 3))
structure X_f4k_4 where
 JJ : Int
 Ua : Int
 Uj : TPg
 Ug : TSt
 UW : (Sl Int)
 Us : Int
 CX : TA6
def S_f4k_4 : AM :=
 Ad Tryz.f43 4 [(2, .any), (3, .any), (4, .any), (5, .any), (9, .any), (10, NQ), (11, .any)] [] [(.loc 9 0, .any)] X_f4k_4 (fun x => [(V.int .i64) x.JJ, (V.int .i64) x.Ua, (C2 e_TPg) x.Uj, (C2 e_TSt) x.Ug, (V.ptr (.loc 9 0) []), Nb x.UW, (V.int .i64) x.Us, e_TA6 x.CX]) fun l => ⟨dI (at_ l 0), dI (at_ l 1), (C3 d_TPg) (at_ l 2), (C3 d_TSt) (at_ l 3), UL (at_ l 5), dI (at_ l 6), d_TA6 (at_ l 7)⟩
structure X_f4k_8 where
 JJ : Int
 Ua : Int
 Uj : TPg
 Ug : TSt
 UW : (Sl Int)
 CX : TA6
def S_f4k_8 : AM :=
 Ad Tryz.f43 8 [(2, .any), (3, .any), (4, .any), (5, .any), (9, .any), (10, NQ)] [] [(.loc 9 0, .any)] X_f4k_8 (fun x => [(V.int .i64) x.JJ, (V.int .i64) x.Ua, (C2 e_TPg) x.Uj, (C2 e_TSt) x.Ug, (V.ptr (.loc 9 0) []), Nb x.UW, e_TA6 x.CX]) fun l => ⟨dI (at_ l 0), dI (at_ l 1), (C3 d_TPg) (at_ l 2), (C3 d_TSt) (at_ l 3), UL (at_ l 5), d_TA6 (at_ l 6)⟩
structure X_f4k_13 where
 JJ : Int
 Ua : Int
 Uj : TPg
 Ug : TSt
 UW : (Sl Int)
 UX : (Sl Int)
 UZ : Int
 Uf : ByteArray
def S_f4k_13 : AM :=
 Ad Tryz.f43 13 [(2, .any), (3, .any), (4, .any), (5, .any), (10, NQ), (12, EW), (13, .any), (14, .any)] [] [] X_f4k_13 (fun x => [(V.int .i64) x.JJ, (V.int .i64) x.Ua, (C2 e_TPg) x.Uj, (C2 e_TSt) x.Ug, Nb x.UW, EC x.UX, (V.int .i64) x.UZ, V.str x.Uf]) fun l => ⟨dI (at_ l 0), dI (at_ l 1), (C3 d_TPg) (at_ l 2), (C3 d_TSt) (at_ l 3), UL (at_ l 4), E5 (at_ l 5), dI (at_ l 6), dS (at_ l 7)⟩
structure X_f4k_15 where
 JJ : Int
 Ua : Int
 Uj : TPg
 Ug : TSt
 UW : (Sl Int)
 UX : (Sl Int)
 UZ : Int
 Uf : ByteArray
def S_f4k_15 : AM :=
 Ad Tryz.f43 15 [(2, .any), (3, .any), (4, .any), (5, .any), (10, NQ), (12, EW), (13, .any), (14, .any)] [] [] X_f4k_15 (fun x => [(V.int .i64) x.JJ, (V.int .i64) x.Ua, (C2 e_TPg) x.Uj, (C2 e_TSt) x.Ug, Nb x.UW, EC x.UX, (V.int .i64) x.UZ, V.str x.Uf]) fun l => ⟨dI (at_ l 0), dI (at_ l 1), (C3 d_TPg) (at_ l 2), (C3 d_TSt) (at_ l 3), UL (at_ l 4), E5 (at_ l 5), dI (at_ l 6), dS (at_ l 7)⟩
structure X_f4k_17 where
 JJ : Int
 Ua : Int
 Uj : TPg
 Ug : TSt
 UW : (Sl Int)
 UX : (Sl Int)
 UZ : Int
def S_f4k_17 : AM :=
 Ad Tryz.f43 17 [(2, .any), (3, .any), (4, .any), (5, .any), (10, NQ), (12, EW), (13, .any)] [] [] X_f4k_17 (fun x => [(V.int .i64) x.JJ, (V.int .i64) x.Ua, (C2 e_TPg) x.Uj, (C2 e_TSt) x.Ug, Nb x.UW, EC x.UX, (V.int .i64) x.UZ]) fun l => ⟨dI (at_ l 0), dI (at_ l 1), (C3 d_TPg) (at_ l 2), (C3 d_TSt) (at_ l 3), UL (at_ l 4), E5 (at_ l 5), dI (at_ l 6)⟩
structure X_f4k_18 where
 JJ : Int
 Ua : Int
 Uj : TPg
 Ug : TSt
 UW : (Sl Int)
 UX : (Sl Int)
 UZ : Int
 Ub : Int
def S_f4k_18 : AM :=
 Ad Tryz.f43 18 [(2, .any), (3, .any), (4, .any), (5, .any), (10, NQ), (12, EW), (13, .any), (15, .any)] [] [] X_f4k_18 (fun x => [(V.int .i64) x.JJ, (V.int .i64) x.Ua, (C2 e_TPg) x.Uj, (C2 e_TSt) x.Ug, Nb x.UW, EC x.UX, (V.int .i64) x.UZ, (V.int .i64) x.Ub]) fun l => ⟨dI (at_ l 0), dI (at_ l 1), (C3 d_TPg) (at_ l 2), (C3 d_TSt) (at_ l 3), UL (at_ l 4), E5 (at_ l 5), dI (at_ l 6), dI (at_ l 7)⟩
structure X_f4k_19 where
 JJ : Int
 Ua : Int
 Uj : TPg
 Ug : TSt
 UW : (Sl Int)
 UX : (Sl Int)
 UZ : Int
 Ub : Int
def S_f4k_19 : AM :=
 Ad Tryz.f43 19 [(2, .any), (3, .any), (4, .any), (5, .any), (10, NQ), (12, EW), (13, .any), (15, .any)] [] [] X_f4k_19 (fun x => [(V.int .i64) x.JJ, (V.int .i64) x.Ua, (C2 e_TPg) x.Uj, (C2 e_TSt) x.Ug, Nb x.UW, EC x.UX, (V.int .i64) x.UZ, (V.int .i64) x.Ub]) fun l => ⟨dI (at_ l 0), dI (at_ l 1), (C3 d_TPg) (at_ l 2), (C3 d_TSt) (at_ l 3), UL (at_ l 4), E5 (at_ l 5), dI (at_ l 6), dI (at_ l 7)⟩
structure X_f4k_21 where
 JJ : Int
 Ua : Int
 Uj : TPg
 Ug : TSt
 UW : (Sl Int)
 UX : (Sl Int)
 UZ : Int
 Ub : Int
 Uo : Int
def S_f4k_21 : AM :=
 Ad Tryz.f43 21 [(2, .any), (3, .any), (4, .any), (5, .any), (10, NQ), (12, EW), (13, .any), (15, .any), (16, .any)] [] [] X_f4k_21 (fun x => [(V.int .i64) x.JJ, (V.int .i64) x.Ua, (C2 e_TPg) x.Uj, (C2 e_TSt) x.Ug, Nb x.UW, EC x.UX, (V.int .i64) x.UZ, (V.int .i64) x.Ub, (V.int .i64) x.Uo]) fun l => ⟨dI (at_ l 0), dI (at_ l 1), (C3 d_TPg) (at_ l 2), (C3 d_TSt) (at_ l 3), UL (at_ l 4), E5 (at_ l 5), dI (at_ l 6), dI (at_ l 7), dI (at_ l 8)⟩
structure X_f4k_22 where
 JJ : Int
 Ua : Int
 Uj : TPg
 Ug : TSt
 UW : (Sl Int)
 UX : (Sl Int)
 UZ : Int
 Ub : Int
 Uo : Int
def S_f4k_22 : AM :=
 Ad Tryz.f43 22 [(2, .any), (3, .any), (4, .any), (5, .any), (10, NQ), (12, EW), (13, .any), (15, .any), (16, .any)] [] [] X_f4k_22 (fun x => [(V.int .i64) x.JJ, (V.int .i64) x.Ua, (C2 e_TPg) x.Uj, (C2 e_TSt) x.Ug, Nb x.UW, EC x.UX, (V.int .i64) x.UZ, (V.int .i64) x.Ub, (V.int .i64) x.Uo]) fun l => ⟨dI (at_ l 0), dI (at_ l 1), (C3 d_TPg) (at_ l 2), (C3 d_TSt) (at_ l 3), UL (at_ l 4), E5 (at_ l 5), dI (at_ l 6), dI (at_ l 7), dI (at_ l 8)⟩
structure X_f4k_24 where
 JJ : Int
 Ua : Int
 Uj : TPg
 Ug : TSt
 UW : (Sl Int)
 UX : (Sl Int)
 UZ : Int
 Ub : Int
 Uo : Int
 U8 : Int
def S_f4k_24 : AM :=
 Ad Tryz.f43 24 [(2, .any), (3, .any), (4, .any), (5, .any), (10, NQ), (12, EW), (13, .any), (15, .any), (16, .any), (17, .any)] [] [] X_f4k_24 (fun x => [(V.int .i64) x.JJ, (V.int .i64) x.Ua, (C2 e_TPg) x.Uj, (C2 e_TSt) x.Ug, Nb x.UW, EC x.UX, (V.int .i64) x.UZ, (V.int .i64) x.Ub, (V.int .i64) x.Uo, (V.int .i64) x.U8]) fun l => ⟨dI (at_ l 0), dI (at_ l 1), (C3 d_TPg) (at_ l 2), (C3 d_TSt) (at_ l 3), UL (at_ l 4), E5 (at_ l 5), dI (at_ l 6), dI (at_ l 7), dI (at_ l 8), dI (at_ l 9)⟩
def tt_f4k_19 (D_f4k_18 : AU X_f4k_18 R_f4k) (x : X_f4k_19) : TT Tryz.prog R_f4k :=
 (.jump S_f4k_18 D_f4k_18 (X_f4k_18.mk x.JJ x.Ua x.Uj x.Ug x.UW x.UX x.UZ (IntKind.i64.wrap (x.Ub + 1))))
theorem sd_f4k_19 (D_f4k_18 : AU X_f4k_18 R_f4k) (x : X_f4k_19) : (tt_f4k_19 D_f4k_18 x).AH :=
 TT.sJ
def D_f4k_19 (D_f4k_18 : AU X_f4k_18 R_f4k) : AU X_f4k_19 R_f4k := .of (tt_f4k_19 D_f4k_18)
theorem ok_f4k_19 (D_f4k_18 : AU X_f4k_18 R_f4k) (h_18 : AW J_f4k S_f4k_18 D_f4k_18) : AW J_f4k S_f4k_19 (D_f4k_19 D_f4k_18) :=
 lk mxk (lbc h_18 rfl lbn) (sd_f4k_19 D_f4k_18)
def tt_f4k_22 (_D_f4k_18 : AU X_f4k_18 R_f4k) (D_f4k_21 : AU X_f4k_21 R_f4k) (x : X_f4k_22) : TT Tryz.prog R_f4k :=
 (.jump S_f4k_21 D_f4k_21 (X_f4k_21.mk x.JJ x.Ua x.Uj x.Ug x.UW x.UX x.UZ x.Ub (IntKind.i64.wrap (x.Uo + 1))))
theorem sd_f4k_22 (D_f4k_18 : AU X_f4k_18 R_f4k) (D_f4k_21 : AU X_f4k_21 R_f4k) (x : X_f4k_22) : (tt_f4k_22 D_f4k_18 D_f4k_21 x).AH :=
 TT.sJ
def D_f4k_22 (D_f4k_18 : AU X_f4k_18 R_f4k) (D_f4k_21 : AU X_f4k_21 R_f4k) : AU X_f4k_22 R_f4k := .of (tt_f4k_22 D_f4k_18 D_f4k_21)
theorem ok_f4k_22 (D_f4k_18 : AU X_f4k_18 R_f4k) (D_f4k_21 : AU X_f4k_21 R_f4k) (h_18 : AW J_f4k S_f4k_18 D_f4k_18) (h_21 : AW J_f4k S_f4k_21 D_f4k_21) : AW J_f4k S_f4k_22 (D_f4k_22 D_f4k_18 D_f4k_21) :=
 lk mxk (lbc h_18 rfl (lbc h_21 rfl (lbc (ok_f4k_19 D_f4k_18 h_18) rfl lbn))) (sd_f4k_22 D_f4k_18 D_f4k_21)
def tt_f4k_24 (D_f4k_18 : AU X_f4k_18 R_f4k) (D_f4k_21 : AU X_f4k_21 R_f4k) (D_f4k_24 : AU X_f4k_24 R_f4k) (x : X_f4k_24) : TT Tryz.prog R_f4k :=
 (.ite (BR x.U8 ((x.UX.n : Nat) : Int))
 (.need (Az x.Uo x.UW.n) <|
 (.need (Az x.U8 x.UX.n) <|
 (.call con_f3f (x.Uj, (x.Ug, (TEv.mk x.JJ x.Ua x.Ub (x.UW.get (Int.toNat x.Uo)) (x.UX.get (Int.toNat x.U8))))) fun (y4 : R_f3f) =>
 (.ite y4
 (.ret true)
 (.jump S_f4k_24 D_f4k_24 (X_f4k_24.mk x.JJ x.Ua x.Uj x.Ug x.UW x.UX x.UZ x.Ub x.Uo (IntKind.i64.wrap (x.U8 + 1))))))))
 (.jump S_f4k_22 (D_f4k_22 D_f4k_18 D_f4k_21) (X_f4k_22.mk x.JJ x.Ua x.Uj x.Ug x.UW x.UX x.UZ x.Ub x.Uo)))
theorem sd_f4k_24 (D_f4k_18 : AU X_f4k_18 R_f4k) (D_f4k_21 : AU X_f4k_21 R_f4k) (D_f4k_24 : AU X_f4k_24 R_f4k) (x : X_f4k_24) : (tt_f4k_24 D_f4k_18 D_f4k_21 D_f4k_24 x).AH :=
 (TT.sI (TT.sN (TT.sN (TT.sC fun _ => (TT.sI TT.sR TT.sJ)))) TT.sJ)
def D_f4k_24 (D_f4k_18 : AU X_f4k_18 R_f4k) (D_f4k_21 : AU X_f4k_21 R_f4k) : AU X_f4k_24 R_f4k := AU.loop (tt_f4k_24 D_f4k_18 D_f4k_21)
theorem ok_f4k_24 (D_f4k_18 : AU X_f4k_18 R_f4k) (D_f4k_21 : AU X_f4k_21 R_f4k) (h_18 : AW J_f4k S_f4k_18 D_f4k_18) (h_21 : AW J_f4k S_f4k_21 D_f4k_21) : AW J_f4k S_f4k_24 (D_f4k_24 D_f4k_18 D_f4k_21) :=
 A2 fun D_f4k_24 h_24 => lk mxk (lbc h_18 rfl (lbc h_21 rfl (lbc h_24 rfl (lbc (ok_f4k_19 D_f4k_18 h_18) rfl (lbc (ok_f4k_22 D_f4k_18 D_f4k_21 h_18 h_21) rfl lbn))))) (sd_f4k_24 D_f4k_18 D_f4k_21 D_f4k_24)
def tt_f4k_21 (D_f4k_18 : AU X_f4k_18 R_f4k) (D_f4k_21 : AU X_f4k_21 R_f4k) (x : X_f4k_21) : TT Tryz.prog R_f4k :=
 (.ite (BR x.Uo ((x.UW.n : Nat) : Int))
 (.jump S_f4k_24 (D_f4k_24 D_f4k_18 D_f4k_21) (X_f4k_24.mk x.JJ x.Ua x.Uj x.Ug x.UW x.UX x.UZ x.Ub x.Uo 0))
 (.jump S_f4k_19 (D_f4k_19 D_f4k_18) (X_f4k_19.mk x.JJ x.Ua x.Uj x.Ug x.UW x.UX x.UZ x.Ub)))
theorem sd_f4k_21 (D_f4k_18 : AU X_f4k_18 R_f4k) (D_f4k_21 : AU X_f4k_21 R_f4k) (x : X_f4k_21) : (tt_f4k_21 D_f4k_18 D_f4k_21 x).AH :=
 (TT.sI TT.sJ TT.sJ)
def D_f4k_21 (D_f4k_18 : AU X_f4k_18 R_f4k) : AU X_f4k_21 R_f4k := AU.loop (tt_f4k_21 D_f4k_18)
theorem ok_f4k_21 (D_f4k_18 : AU X_f4k_18 R_f4k) (h_18 : AW J_f4k S_f4k_18 D_f4k_18) : AW J_f4k S_f4k_21 (D_f4k_21 D_f4k_18) :=
 A2 fun D_f4k_21 h_21 => lk mxk (lbc h_18 rfl (lbc h_21 rfl (lbc (ok_f4k_19 D_f4k_18 h_18) rfl (lbc (ok_f4k_22 D_f4k_18 D_f4k_21 h_18 h_21) rfl (lbc (ok_f4k_24 D_f4k_18 D_f4k_21 h_18 h_21) rfl lbn))))) (sd_f4k_21 D_f4k_18 D_f4k_21)
def tt_f4k_18 (D_f4k_18 : AU X_f4k_18 R_f4k) (x : X_f4k_18) : TT Tryz.prog R_f4k :=
 (.ite (BR x.Ub x.UZ)
 (.jump S_f4k_21 (D_f4k_21 D_f4k_18) (X_f4k_21.mk x.JJ x.Ua x.Uj x.Ug x.UW x.UX x.UZ x.Ub 0))
 (.ret false))
theorem sd_f4k_18 (D_f4k_18 : AU X_f4k_18 R_f4k) (x : X_f4k_18) : (tt_f4k_18 D_f4k_18 x).AH :=
 (TT.sI TT.sJ TT.sR)
def D_f4k_18 : AU X_f4k_18 R_f4k := AU.loop tt_f4k_18
theorem ok_f4k_18 : AW J_f4k S_f4k_18 D_f4k_18 :=
 A2 fun D_f4k_18 h_18 => lk mxk (lbc h_18 rfl (lbc (ok_f4k_19 D_f4k_18 h_18) rfl (lbc (ok_f4k_21 D_f4k_18 h_18) rfl lbn))) (sd_f4k_18 D_f4k_18)
def tt_f4k_17 (x : X_f4k_17) : TT Tryz.prog R_f4k :=
 (.jump S_f4k_18 D_f4k_18 (X_f4k_18.mk x.JJ x.Ua x.Uj x.Ug x.UW x.UX x.UZ 0))
theorem sd_f4k_17 (x : X_f4k_17) : (tt_f4k_17 x).AH :=
 TT.sJ
def D_f4k_17 : AU X_f4k_17 R_f4k := .of tt_f4k_17
theorem ok_f4k_17 : AW J_f4k S_f4k_17 D_f4k_17 :=
 lk mxk (lbc ok_f4k_18 rfl lbn) sd_f4k_17
def tt_f4k_15 (x : X_f4k_15) : TT Tryz.prog R_f4k :=
 (.call con_f4n (x.Uf, 86) fun (y1 : R_f4n) =>
 (.ite (!y1)
 (.jump S_f4k_17 D_f4k_17 (X_f4k_17.mk x.JJ x.Ua x.Uj x.Ug x.UW (Sl.mk false 1 (fun _i2 => (0 : Int))) x.UZ))
 (.jump S_f4k_17 D_f4k_17 (X_f4k_17.mk x.JJ x.Ua x.Uj x.Ug x.UW x.UX x.UZ))))
theorem sd_f4k_15 (x : X_f4k_15) : (tt_f4k_15 x).AH :=
 (TT.sC fun _ => (TT.sI TT.sJ TT.sJ))
def D_f4k_15 : AU X_f4k_15 R_f4k := .of tt_f4k_15
theorem ok_f4k_15 : AW J_f4k S_f4k_15 D_f4k_15 :=
 lk mxk (lbc ok_f4k_18 rfl (lbc ok_f4k_17 rfl lbn)) sd_f4k_15
def tt_f4k_13 (x : X_f4k_13) : TT Tryz.prog R_f4k :=
 (.call con_f4n (x.Uf, 84) fun (y1 : R_f4n) =>
 (.ite (!y1)
 (.jump S_f4k_15 D_f4k_15 (X_f4k_15.mk x.JJ x.Ua x.Uj x.Ug (Sl.mk false 1 (fun _i2 => (0 : Int))) x.UX x.UZ x.Uf))
 (.jump S_f4k_15 D_f4k_15 (X_f4k_15.mk x.JJ x.Ua x.Uj x.Ug x.UW x.UX x.UZ x.Uf))))
theorem sd_f4k_13 (x : X_f4k_13) : (tt_f4k_13 x).AH :=
 (TT.sC fun _ => (TT.sI TT.sJ TT.sJ))
def D_f4k_13 : AU X_f4k_13 R_f4k := .of tt_f4k_13
theorem ok_f4k_13 : AW J_f4k S_f4k_13 D_f4k_13 :=
 lk mxk (lbc ok_f4k_18 rfl (lbc ok_f4k_17 rfl (lbc ok_f4k_15 rfl lbn))) sd_f4k_13
def tt_f4k_8 (x : X_f4k_8) : TT Tryz.prog R_f4k :=
 (.call con_f3w x.Ua fun (y1 : R_f3w) =>
 (.call con_f4n (y1, 82) fun (y2 : R_f4n) =>
 (.ite (!y2)
 (.jump S_f4k_13 D_f4k_13 (X_f4k_13.mk x.JJ x.Ua x.Uj x.Ug x.UW (Sl.mk false 3 (fun i3 => (cond (Nat.beq i3 0) (0 : Int) (cond (Nat.beq i3 1) x.Ug.Gz x.CX.Value)))) 1 y1))
 (.jump S_f4k_13 D_f4k_13 (X_f4k_13.mk x.JJ x.Ua x.Uj x.Ug x.UW (Sl.mk false 3 (fun i3 => (cond (Nat.beq i3 0) (0 : Int) (cond (Nat.beq i3 1) x.Ug.Gz x.CX.Value)))) 8 y1)))))
theorem sd_f4k_8 (x : X_f4k_8) : (tt_f4k_8 x).AH :=
 (TT.sC fun _ => (TT.sC fun _ => (TT.sI TT.sJ TT.sJ)))
def D_f4k_8 : AU X_f4k_8 R_f4k := .of tt_f4k_8
theorem ok_f4k_8 : AW J_f4k S_f4k_8 D_f4k_8 :=
 lk mxk (lbc ok_f4k_18 rfl (lbc ok_f4k_17 rfl (lbc ok_f4k_15 rfl (lbc ok_f4k_13 rfl lbn)))) sd_f4k_8
def tt_f4k_4 (D_f4k_4 : AU X_f4k_4 R_f4k) (x : X_f4k_4) : TT Tryz.prog R_f4k :=
 (.ite (BR x.Us ((x.Ug.AJ.n : Nat) : Int))
 (.need (Az x.Us x.Ug.AJ.n) <|
 (.need (true && (room (x.UW.n + 1) 8)) <|
 (.need (Az x.Us x.Ug.AJ.n) <|
 (.need (true && (room ((x.UW.n + 1) + (x.Ug.AJ.get (Int.toNat x.Us)).AY.n) 8)) <|
 (.jump S_f4k_4 D_f4k_4 (X_f4k_4.mk x.JJ x.Ua x.Uj x.Ug (Sl.mk (cond (Nat.beq (x.Ug.AJ.get (Int.toNat x.Us)).AY.n 0) (cond (Nat.beq 1 0) x.UW.nil false) false) ((x.UW.n + 1) + (x.Ug.AJ.get (Int.toNat x.Us)).AY.n) (fun i2 => (cond (Nat.blt i2 (x.UW.n + 1)) (cond (Nat.blt i2 x.UW.n) (x.UW.get i2) (x.Ug.AJ.get (Int.toNat x.Us)).Au) ((x.Ug.AJ.get (Int.toNat x.Us)).AY.get (i2 - (x.UW.n + 1)))))) (IntKind.i64.wrap (x.Us + 1)) x.CX))))))
 (.jump S_f4k_8 D_f4k_8 (X_f4k_8.mk x.JJ x.Ua x.Uj x.Ug x.UW x.CX)))
theorem sd_f4k_4 (D_f4k_4 : AU X_f4k_4 R_f4k) (x : X_f4k_4) : (tt_f4k_4 D_f4k_4 x).AH :=
 (TT.sI (TT.sN (TT.sN (TT.sN (TT.sN TT.sJ)))) TT.sJ)
def D_f4k_4 : AU X_f4k_4 R_f4k := AU.loop tt_f4k_4
theorem ok_f4k_4 : AW J_f4k S_f4k_4 D_f4k_4 :=
 A2 fun D_f4k_4 h_4 => lk mxk (lbc h_4 rfl (lbc ok_f4k_18 rfl (lbc ok_f4k_17 rfl (lbc ok_f4k_15 rfl (lbc ok_f4k_13 rfl (lbc ok_f4k_8 rfl lbn)))))) (sd_f4k_4 D_f4k_4)
def tt_f4k (x : X_f4k) : TT Tryz.prog R_f4k :=
 (.call con_f4a (x.fst, (x.snd.fst, x.snd.snd.fst)) fun (y1 : R_f4a) =>
 (.jump S_f4k_4 D_f4k_4 (X_f4k_4.mk x.snd.snd.fst x.snd.snd.snd x.fst x.snd.fst (Sl.mk false 2 (fun i2 => (cond (Nat.beq i2 0) (0 : Int) y1.AG))) 0 y1)))
theorem sd_f4k (x : X_f4k) : (tt_f4k x).AH :=
 (TT.sC fun _ => TT.sJ)
def D_f4k : AU X_f4k R_f4k := .of tt_f4k
def con_f4k : A3 Tryz.prog :=
 BS 43 J_f4k S_f4k D_f4k 4 0 [sh_TPg, sh_TSt, .any, .any] (lk mxk (lbc ok_f4k_18 rfl (lbc ok_f4k_17 rfl (lbc ok_f4k_15 rfl (lbc ok_f4k_13 rfl (lbc ok_f4k_8 rfl (lbc ok_f4k_4 rfl lbn)))))) sd_f4k)
abbrev X_f4m : Type := TPg × TSt × Int
abbrev R_f4m : Type := (Sl Int)
def J_f4m : A8 Tryz.prog :=
 BD Tryz.prog Tryz.f20 23 [(3, 3), (4, 3), (18, 1), (22, 1)] [] [] [.shut 6] [EX] [] [con_f4k] R_f4m [] fun y => [ED y]
def S_f4m : AM :=
 Ae Tryz.f20 3 0 X_f4m (fun x => [e_TPg x.1, e_TSt x.2.1, (V.int .i64) x.2.2]) fun l => (d_TPg (at_ l 0), d_TSt (at_ l 1), dI (at_ l 2))
structure X_f4m_3 where
 JJ : Int
 H3 : TPg
 VL : TSt
 OZ : (Sl Int)
 Uh : Int
def S_f4m_3 : AM :=
 Ad Tryz.f20 3 [(2, .any), (3, .any), (4, .any), (7, NR), (8, .any)] [] [] X_f4m_3 (fun x => [(V.int .i64) x.JJ, (C2 e_TPg) x.H3, (C2 e_TSt) x.VL, Nc x.OZ, (V.int .i64) x.Uh]) fun l => ⟨dI (at_ l 0), (C3 d_TPg) (at_ l 1), (C3 d_TSt) (at_ l 2), Nh (at_ l 3), dI (at_ l 4)⟩
structure X_f4m_4 where
 JJ : Int
 H3 : TPg
 VL : TSt
 OZ : (Sl Int)
 Uh : Int
def S_f4m_4 : AM :=
 Ad Tryz.f20 4 [(2, .any), (3, .any), (4, .any), (7, NR), (8, .any)] [] [] X_f4m_4 (fun x => [(V.int .i64) x.JJ, (C2 e_TPg) x.H3, (C2 e_TSt) x.VL, Nc x.OZ, (V.int .i64) x.Uh]) fun l => ⟨dI (at_ l 0), (C3 d_TPg) (at_ l 1), (C3 d_TSt) (at_ l 2), Nh (at_ l 3), dI (at_ l 4)⟩
def tt_f4m_4 (D_f4m_3 : AU X_f4m_3 R_f4m) (x : X_f4m_4) : TT Tryz.prog R_f4m :=
 (.jump S_f4m_3 D_f4m_3 (X_f4m_3.mk x.JJ x.H3 x.VL x.OZ (IntKind.i64.wrap (x.Uh + 1))))
theorem sd_f4m_4 (D_f4m_3 : AU X_f4m_3 R_f4m) (x : X_f4m_4) : (tt_f4m_4 D_f4m_3 x).AH :=
 TT.sJ
def D_f4m_4 (D_f4m_3 : AU X_f4m_3 R_f4m) : AU X_f4m_4 R_f4m := .of (tt_f4m_4 D_f4m_3)
theorem ok_f4m_4 (D_f4m_3 : AU X_f4m_3 R_f4m) (h_3 : AW J_f4m S_f4m_3 D_f4m_3) : AW J_f4m S_f4m_4 (D_f4m_4 D_f4m_3) :=
 lk mxk (lbc h_3 rfl lbn) (sd_f4m_4 D_f4m_3)
def tt_f4m_3 (D_f4m_3 : AU X_f4m_3 R_f4m) (x : X_f4m_3) : TT Tryz.prog R_f4m :=
 (.ite (BW x.Uh 15)
 (.call con_f4k (x.H3, (x.VL, (x.JJ, x.Uh))) fun (y2 : R_f4k) =>
 (.ite y2
 (.need (true && (room (x.OZ.n + 1) 8)) <|
 (.jump S_f4m_4 (D_f4m_4 D_f4m_3) (X_f4m_4.mk x.JJ x.H3 x.VL (Sl.mk (cond (Nat.beq 1 0) x.OZ.nil false) (x.OZ.n + 1) (fun i3 => (cond (Nat.blt i3 x.OZ.n) (x.OZ.get i3) x.Uh))) x.Uh)))
 (.jump S_f4m_4 (D_f4m_4 D_f4m_3) (X_f4m_4.mk x.JJ x.H3 x.VL x.OZ x.Uh))))
 (.ret x.OZ))
theorem sd_f4m_3 (D_f4m_3 : AU X_f4m_3 R_f4m) (x : X_f4m_3) : (tt_f4m_3 D_f4m_3 x).AH :=
 (TT.sI (TT.sC fun _ => (TT.sI (TT.sN TT.sJ) TT.sJ)) TT.sR)
def D_f4m_3 : AU X_f4m_3 R_f4m := AU.loop tt_f4m_3
theorem ok_f4m_3 : AW J_f4m S_f4m_3 D_f4m_3 :=
 A2 fun D_f4m_3 h_3 => lk mxk (lbc h_3 rfl (lbc (ok_f4m_4 D_f4m_3 h_3) rfl lbn)) (sd_f4m_3 D_f4m_3)
def tt_f4m (x : X_f4m) : TT Tryz.prog R_f4m :=
 (.jump S_f4m_3 D_f4m_3 (X_f4m_3.mk x.snd.snd x.fst x.snd.fst (Sl.mk true 0 (fun _i1 => (0 : Int))) 1))
theorem sd_f4m (x : X_f4m) : (tt_f4m x).AH :=
 TT.sJ
def D_f4m : AU X_f4m R_f4m := .of tt_f4m
def con_f4m : A3 Tryz.prog :=
 BS 20 J_f4m S_f4m D_f4m 3 0 [sh_TPg, sh_TSt, .any] (lk mxk (lbc ok_f4m_3 rfl lbn) sd_f4m)
abbrev X_f4o : Type := TPg × TSt
abbrev R_f4o : Type := Bool
def J_f4o : A8 Tryz.prog :=
 BD Tryz.prog Tryz.f22 31 [(2, 3), (3, 3)] [] [] [] [.any] [] [con_f4m] R_f4o [] fun y => [V.bool y]
def S_f4o : AM :=
 Ae Tryz.f22 2 0 X_f4o (fun x => [e_TPg x.1, e_TSt x.2]) fun l => (d_TPg (at_ l 0), d_TSt (at_ l 1))
structure X_f4o_3 where
 H4 : TPg
 Dh : TSt
 Va : Bool
 Kl : Int
def S_f4o_3 : AM :=
 Ad Tryz.f22 3 (an [2, 3, 5, 6]) [] [] X_f4o_3 (fun x => [(C2 e_TPg) x.H4, (C2 e_TSt) x.Dh, V.bool x.Va, (V.int .i64) x.Kl]) fun l => ⟨(C3 d_TPg) (at_ l 0), (C3 d_TSt) (at_ l 1), dB (at_ l 2), dI (at_ l 3)⟩
structure X_f4o_4 where
 H4 : TPg
 Dh : TSt
 Va : Bool
 Kl : Int
def S_f4o_4 : AM :=
 Ad Tryz.f22 4 (an [2, 3, 5, 6]) [] [] X_f4o_4 (fun x => [(C2 e_TPg) x.H4, (C2 e_TSt) x.Dh, V.bool x.Va, (V.int .i64) x.Kl]) fun l => ⟨(C3 d_TPg) (at_ l 0), (C3 d_TSt) (at_ l 1), dB (at_ l 2), dI (at_ l 3)⟩
def tt_f4o_4 (D_f4o_3 : AU X_f4o_3 R_f4o) (x : X_f4o_4) : TT Tryz.prog R_f4o :=
 (.jump S_f4o_3 D_f4o_3 (X_f4o_3.mk x.H4 x.Dh x.Va (IntKind.i64.wrap (x.Kl + 1))))
theorem sd_f4o_4 (D_f4o_3 : AU X_f4o_3 R_f4o) (x : X_f4o_4) : (tt_f4o_4 D_f4o_3 x).AH :=
 TT.sJ
def D_f4o_4 (D_f4o_3 : AU X_f4o_3 R_f4o) : AU X_f4o_4 R_f4o := .of (tt_f4o_4 D_f4o_3)
theorem ok_f4o_4 (D_f4o_3 : AU X_f4o_3 R_f4o) (h_3 : AW J_f4o S_f4o_3 D_f4o_3) : AW J_f4o S_f4o_4 (D_f4o_4 D_f4o_3) :=
 lk mxk (lbc h_3 rfl lbn) (sd_f4o_4 D_f4o_3)
def tt_f4o_3 (D_f4o_3 : AU X_f4o_3 R_f4o) (x : X_f4o_3) : TT Tryz.prog R_f4o :=
 (.ite (BR x.Kl ((x.Dh.AB.n : Nat) : Int))
 (.call con_f4m (x.H4, (x.Dh, x.Kl)) fun (y2 : R_f4m) =>
 (.ite (BR 0 ((y2.n : Nat) : Int))
 (.ret false)
 (.ite x.Va
 (.jump S_f4o_4 (D_f4o_4 D_f4o_3) (X_f4o_4.mk x.H4 x.Dh true x.Kl))
 (.need (Az x.Kl x.Dh.AB.n) <|
 (.jump S_f4o_4 (D_f4o_4 D_f4o_3) (X_f4o_4.mk x.H4 x.Dh (AX (x.Dh.AB.get (Int.toNat x.Kl)).Status 0) x.Kl))))))
 (.ret x.Va))
theorem sd_f4o_3 (D_f4o_3 : AU X_f4o_3 R_f4o) (x : X_f4o_3) : (tt_f4o_3 D_f4o_3 x).AH :=
 (TT.sI (TT.sC fun _ => (TT.sI TT.sR (TT.sI TT.sJ (TT.sN TT.sJ)))) TT.sR)
def D_f4o_3 : AU X_f4o_3 R_f4o := AU.loop tt_f4o_3
theorem ok_f4o_3 : AW J_f4o S_f4o_3 D_f4o_3 :=
 A2 fun D_f4o_3 h_3 => lk mxk (lbc h_3 rfl (lbc (ok_f4o_4 D_f4o_3 h_3) rfl lbn)) (sd_f4o_3 D_f4o_3)
def tt_f4o (x : X_f4o) : TT Tryz.prog R_f4o :=
 (.jump S_f4o_3 D_f4o_3 (X_f4o_3.mk x.fst x.snd false 0))
theorem sd_f4o (x : X_f4o) : (tt_f4o x).AH :=
 TT.sJ
def D_f4o : AU X_f4o R_f4o := .of tt_f4o
def con_f4o : A3 Tryz.prog :=
 BS 22 J_f4o S_f4o D_f4o 2 0 [sh_TPg, sh_TSt] (lk mxk (lbc ok_f4o_3 rfl lbn) sd_f4o)
abbrev X_f4p : Type := TPg × (Sl TEv)
abbrev R_f4p : Type := Bool
def J_f4p : A8 Tryz.prog :=
 BD Tryz.prog Tryz.f5 65 [(2, 3), (22, 1), (40, 1), (47, 1)] [] [] [] [.any] [] [con_fc, con_f2b, con_f1r, con_f42, con_f1n, con_f4o, con_f3p] R_f4p [] fun y => [V.bool y]
def S_f4p : AM :=
 Ae Tryz.f5 2 0 X_f4p (fun x => [e_TPg x.1, esl_TEv x.2]) fun l => (d_TPg (at_ l 0), dsl_TEv (at_ l 1))
structure X_f4p_3 where
 FV : (Sl TEv)
 H4 : TPg
def S_f4p_3 : AM :=
 Ad Tryz.f5 3 [(1, hsl_TEv), (2, .any)] [] [] X_f4p_3 (fun x => [esl_TEv x.FV, (C2 e_TPg) x.H4]) fun l => ⟨dsl_TEv (at_ l 0), (C3 d_TPg) (at_ l 1)⟩
def tt_f4p_3 (x : X_f4p_3) : TT Tryz.prog R_f4p :=
 (.call con_f2b x.H4 fun (y1 : R_f2b) =>
 (.need (true && (room ((0 : Nat) + x.FV.n) 40)) <|
 (.call con_fc (y1, (Sl.mk (cond (Nat.beq x.FV.n 0) false false) ((0 : Nat) + x.FV.n) (fun i2 => (TEv.mk (cond (Nat.blt i2 0) (0 : Int) (x.FV.get (i2 - 0)).Thread) (cond (Nat.blt i2 0) (0 : Int) (x.FV.get (i2 - 0)).Kind) (cond (Nat.blt i2 0) (0 : Int) (x.FV.get (i2 - 0)).Ring) (cond (Nat.blt i2 0) (0 : Int) (x.FV.get (i2 - 0)).AG) (cond (Nat.blt i2 0) (0 : Int) (x.FV.get (i2 - 0)).Value))))) fun (y2 : R_fc) =>
 (.call con_f42 x.H4 fun (y3 : R_f42) =>
 (.ite (!y3)
 (.ite (!y2.fst)
 (.ret (AX y2.snd 1))
 (.ret false))
 (.call con_f1n (x.H4, x.FV) fun (y4 : R_f1n) =>
 (.ite (BR y4.snd ((x.FV.n : Nat) : Int))
 (.ite (!y2.fst)
 (.ret (AX y2.snd 11))
 (.ret false))
 (.call con_f4o (x.H4, y4.fst) fun (y5 : R_f4o) =>
 (.ite (y2.fst == y5)
 (.ret (AX y2.snd 0))
 (.ret false))))))))))
theorem sd_f4p_3 (x : X_f4p_3) : (tt_f4p_3 x).AH :=
 (TT.sC fun _ => (TT.sN (TT.sC fun _ => (TT.sC fun _ => (TT.sI (TT.sI TT.sR TT.sR) (TT.sC fun _ => (TT.sI (TT.sI TT.sR TT.sR) (TT.sC fun _ => (TT.sI TT.sR TT.sR)))))))))
def D_f4p_3 : AU X_f4p_3 R_f4p := .of tt_f4p_3
theorem ok_f4p_3 : AW J_f4p S_f4p_3 D_f4p_3 :=
 lk mxk lbn sd_f4p_3
def tt_f4p (x : X_f4p) : TT Tryz.prog R_f4p :=
 (.call con_f3p PUnit.unit fun (y1 : R_f3p) =>
 (.ite (!y1)
 (.call con_f3p PUnit.unit fun (y2 : R_f3p) =>
 (.ret y2))
 (.call con_f1r (x.fst, 100) fun (y2 : R_f1r) =>
 (.ite (!y2)
 (.call con_f3p PUnit.unit fun (y3 : R_f3p) =>
 (.ret y3))
 (.ite (BR 60 ((x.snd.n : Nat) : Int))
 (.call con_f3p PUnit.unit fun (y3 : R_f3p) =>
 (.ret y3))
 (.jump S_f4p_3 D_f4p_3 (X_f4p_3.mk x.snd x.fst)))))))
theorem sd_f4p (x : X_f4p) : (tt_f4p x).AH :=
 (TT.sC fun _ => (TT.sI (TT.sC fun _ => TT.sR) (TT.sC fun _ => (TT.sI (TT.sC fun _ => TT.sR) (TT.sI (TT.sC fun _ => TT.sR) TT.sJ)))))
def D_f4p : AU X_f4p R_f4p := .of tt_f4p
def con_f4p : A3 Tryz.prog :=
 BS 5 J_f4p S_f4p D_f4p 2 0 [sh_TPg, hsl_TEv] (lk mxk (lbc ok_f4p_3 rfl lbn) sd_f4p)
end Go.Proofs.YtlhifcnjnmeknaaGreatDoor
end
