/- What functions of the program come to, part F: no statement is proved here. -/
import Derived.Test.YtlhifcnjnmeknaaGreatGE
noncomputable section
namespace Go.Proofs.YtlhifcnjnmeknaaGreat
open Go Go.Vm Go.Proofs
set_option maxRecDepth 100000
abbrev X_f2z : Type := Int
abbrev R_f2z : Type := Int
def J_f2z : BH Tryz.prog :=
 BR Tryz.prog Tryz.f108 14 [] [] [] [] [.any] [] [] R_f2z [] fun y => [(V.int .u64) y]
def S_f2z : AR :=
 Aj Tryz.f108 1 0 X_f2z (fun x => [(V.int .u8) x]) fun l => (dI (at_ l 0))
def tt_f2z (x : X_f2z) : TT Tryz.prog R_f2z :=
 (.ite (Ad x 114)
 (.ret 7)
 (.ite (Ad x 103)
 (.ret 7)
 (.ite (Ad x 100)
 (.ret 7)
 (.ite (Ad x 109)
 (.ret 2)
 (.ite (Ad x 112)
 (.ret 256)
 (.ite (Ad x 110)
 (.ret 18446744073709551615)
 (.ret 0)))))))
theorem sd_f2z (x : X_f2z) : (tt_f2z x).AH :=
 (TT.sI TT.sR (TT.sI TT.sR (TT.sI TT.sR (TT.sI TT.sR (TT.sI TT.sR (TT.sI TT.sR TT.sR))))))
def D_f2z : AV X_f2z R_f2z := .of tt_f2z
def con_f2z : BC Tryz.prog :=
 CH 108 J_f2z S_f2z D_f2z 1 0 [.any] (lk mxk lbn sd_f2z)
abbrev OI : Type := (Sl Int)
def N4 : OI → V := (MY none 1 (V.int .i64))
def N5 : V → OI := (LW dI)
def Nz : Sh := (.sl none 1 (V.int .i64 0))
abbrev X_fg : Type := TIn
abbrev R_fg : Type := Bool
def J_fg : BH Tryz.prog :=
 BR Tryz.prog Tryz.f89 49 [(1, 3)] [] [] [] [.any] [] [con_f33, con_f2z] R_fg [] fun y => [V.bool y]
def S_fg : AR :=
 Aj Tryz.f89 1 0 X_fg (fun x => [e_TIn x]) fun l => (d_TIn (at_ l 0))
structure X_fg_4 where
 S5 : TIn
 Q4 : ByteArray
def S_fg_4 : AR :=
 Ak Tryz.f89 4 (an [1, 3]) [] [] X_fg_4 (fun x => [(DQ e_TIn) x.S5, V.str x.Q4]) fun l => ⟨(DR d_TIn) (at_ l 0), dS (at_ l 1)⟩
structure X_fg_6 where
 Q4 : ByteArray
 Re : (Sl Int)
 PY : Int
def S_fg_6 : AR :=
 Ak Tryz.f89 6 [(3, .any), (4, Nz), (5, .any)] [] [] X_fg_6 (fun x => [V.str x.Q4, N4 x.Re, (V.int .i64) x.PY]) fun l => ⟨dS (at_ l 0), N5 (at_ l 1), dI (at_ l 2)⟩
structure X_fg_7 where
 Q4 : ByteArray
 Re : (Sl Int)
 PY : Int
def S_fg_7 : AR :=
 Ak Tryz.f89 7 [(3, .any), (4, Nz), (5, .any)] [] [] X_fg_7 (fun x => [V.str x.Q4, N4 x.Re, (V.int .i64) x.PY]) fun l => ⟨dS (at_ l 0), N5 (at_ l 1), dI (at_ l 2)⟩
def tt_fg_7 (D_fg_6 : AV X_fg_6 R_fg) (x : X_fg_7) : TT Tryz.prog R_fg :=
 (.Ac S_fg_6 D_fg_6 (X_fg_6.mk x.Q4 x.Re (IntKind.i64.wrap (x.PY + 1))))
theorem sd_fg_7 (D_fg_6 : AV X_fg_6 R_fg) (x : X_fg_7) : (tt_fg_7 D_fg_6 x).AH :=
 TT.sJ
def D_fg_7 (D_fg_6 : AV X_fg_6 R_fg) : AV X_fg_7 R_fg := .of (tt_fg_7 D_fg_6)
theorem ok_fg_7 (D_fg_6 : AV X_fg_6 R_fg) (h_6 : AZ J_fg S_fg_6 D_fg_6) : AZ J_fg S_fg_7 (D_fg_7 D_fg_6) :=
 lk mxk (lbc h_6 rfl lbn) (sd_fg_7 D_fg_6)
def tt_fg_6 (D_fg_6 : AV X_fg_6 R_fg) (x : X_fg_6) : TT Tryz.prog R_fg :=
 (.ite (Bu x.PY 4)
 (.need (BA x.PY x.Re.n) <|
 (.ite (Bu (x.Re.get (Int.toNat x.PY)) 0)
 (.ret false)
 (.need (BA x.PY x.Re.n) <|
 (.need (BA x.PY (ByteArray.size x.Q4)) <|
 (.call con_f2z (bt x.Q4 (Int.toNat x.PY)) fun (y2 : R_f2z) =>
 (.ite (Bu y2 (IntKind.u64.wrap (x.Re.get (Int.toNat x.PY))))
 (.ret false)
 (.Ac S_fg_7 (D_fg_7 D_fg_6) (X_fg_7.mk x.Q4 x.Re x.PY))))))))
 (.ret true))
theorem sd_fg_6 (D_fg_6 : AV X_fg_6 R_fg) (x : X_fg_6) : (tt_fg_6 D_fg_6 x).AH :=
 (TT.sI (TT.sN (TT.sI TT.sR (TT.sN (TT.sN (TT.sC fun _ => (TT.sI TT.sR TT.sJ)))))) TT.sR)
def D_fg_6 : AV X_fg_6 R_fg := AV.loop tt_fg_6
theorem ok_fg_6 : AZ J_fg S_fg_6 D_fg_6 :=
 BF fun D_fg_6 h_6 => lk mxk (lbc h_6 rfl (lbc (ok_fg_7 D_fg_6 h_6) rfl lbn)) (sd_fg_6 D_fg_6)
def tt_fg_4 (x : X_fg_4) : TT Tryz.prog R_fg :=
 (.Ac S_fg_6 D_fg_6 (X_fg_6.mk x.Q4 (Sl.mk false 4 (fun i1 => (cond (Nat.beq i1 0) x.S5.A (cond (Nat.beq i1 1) x.S5.B (cond (Nat.beq i1 2) x.S5.C x.S5.D))))) 0))
theorem sd_fg_4 (x : X_fg_4) : (tt_fg_4 x).AH :=
 TT.sJ
def D_fg_4 : AV X_fg_4 R_fg := .of tt_fg_4
theorem ok_fg_4 : AZ J_fg S_fg_4 D_fg_4 :=
 lk mxk (lbc ok_fg_6 rfl lbn) sd_fg_4
def tt_fg (x : X_fg) : TT Tryz.prog R_fg :=
 (.call con_f33 x.Op fun (y1 : R_f33) =>
 (.ite (seq y1 (ByteArray.mk #[]))
 (.ret false)
 (.need (BA 4 (ByteArray.size y1)) <|
 (.call con_f2z (bt y1 (Int.toNat 4)) fun (y2 : R_f2z) =>
 (.ite (Bu y2 x.K)
 (.ret false)
 (.Ac S_fg_4 D_fg_4 (X_fg_4.mk x y1)))))))
theorem sd_fg (x : X_fg) : (tt_fg x).AH :=
 (TT.sC fun _ => (TT.sI TT.sR (TT.sN (TT.sC fun _ => (TT.sI TT.sR TT.sJ)))))
def D_fg : AV X_fg R_fg := .of tt_fg
def con_fg : BC Tryz.prog :=
 CH 89 J_fg S_fg D_fg 1 0 [.any] (lk mxk (lbc ok_fg_6 rfl (lbc ok_fg_4 rfl lbn)) sd_fg)
abbrev X_f1s : Type := TPg × TIn × Int
abbrev R_f1s : Type := Int
def J_f1s : BH Tryz.prog :=
 BR Tryz.prog Tryz.f90 56 [(3, 3), (4, 3)] [] [] [] [.any] [] [] R_f1s [] fun y => [(V.int .i64) y]
def S_f1s : AR :=
 Aj Tryz.f90 3 0 X_f1s (fun x => [e_TPg x.1, e_TIn x.2.1, (V.int .i64) x.2.2]) fun l => (d_TPg (at_ l 0), d_TIn (at_ l 1), dI (at_ l 2))
structure X_f1s_3 where
 R4 : TPg
 Ie : TIn
def S_f1s_3 : AR :=
 Ak Tryz.f90 3 (an [3, 4]) [] [] X_f1s_3 (fun x => [(DQ e_TPg) x.R4, (DQ e_TIn) x.Ie]) fun l => ⟨(DR d_TPg) (at_ l 0), (DR d_TIn) (at_ l 1)⟩
def tt_f1s_3 (x : X_f1s_3) : TT Tryz.prog R_f1s :=
 (.ite (Bh 18 x.Ie.Op)
 (.ite (Bh x.Ie.Op 20)
 (.ite (Bh ((x.R4.AK.n : Nat) : Int) x.Ie.C)
 (.ret 7)
 (.ite (Ad x.Ie.Op 19)
 (.need (BA x.Ie.C x.R4.AK.n) <|
 (.ite (Bh (IntKind.u64.wrap (x.R4.AK.get (Int.toNat x.Ie.C)).AX) x.Ie.K)
 (.ret 7)
 (.ret 0)))
 (.ret 0)))
 (.ite (Ad x.Ie.Op 19)
 (.need (BA x.Ie.C x.R4.AK.n) <|
 (.ite (Bh (IntKind.u64.wrap (x.R4.AK.get (Int.toNat x.Ie.C)).AX) x.Ie.K)
 (.ret 7)
 (.ret 0)))
 (.ret 0)))
 (.ite (Ad x.Ie.Op 19)
 (.need (BA x.Ie.C x.R4.AK.n) <|
 (.ite (Bh (IntKind.u64.wrap (x.R4.AK.get (Int.toNat x.Ie.C)).AX) x.Ie.K)
 (.ret 7)
 (.ret 0)))
 (.ret 0)))
theorem sd_f1s_3 (x : X_f1s_3) : (tt_f1s_3 x).AH :=
 (TT.sI (TT.sI (TT.sI TT.sR (TT.sI (TT.sN (TT.sI TT.sR TT.sR)) TT.sR)) (TT.sI (TT.sN (TT.sI TT.sR TT.sR)) TT.sR)) (TT.sI (TT.sN (TT.sI TT.sR TT.sR)) TT.sR))
def D_f1s_3 : AV X_f1s_3 R_f1s := .of tt_f1s_3
theorem ok_f1s_3 : AZ J_f1s S_f1s_3 D_f1s_3 :=
 lk mxk lbn sd_f1s_3
def tt_f1s (x : X_f1s) : TT Tryz.prog R_f1s :=
 (.ite (Bh 15 x.snd.fst.Op)
 (.ite (Bh x.snd.fst.Op 17)
 (.ite (Bu (IntKind.u64.wrap x.snd.snd) x.snd.fst.K)
 (.ret 5)
 (.Ac S_f1s_3 D_f1s_3 (X_f1s_3.mk x.fst x.snd.fst)))
 (.Ac S_f1s_3 D_f1s_3 (X_f1s_3.mk x.fst x.snd.fst)))
 (.Ac S_f1s_3 D_f1s_3 (X_f1s_3.mk x.fst x.snd.fst)))
theorem sd_f1s (x : X_f1s) : (tt_f1s x).AH :=
 (TT.sI (TT.sI (TT.sI TT.sR TT.sJ) TT.sJ) TT.sJ)
def D_f1s : AV X_f1s R_f1s := .of tt_f1s
def con_f1s : BC Tryz.prog :=
 CH 90 J_f1s S_f1s D_f1s 3 0 [sh_TPg, .any, .any] (lk mxk (lbc ok_f1s_3 rfl lbn) sd_f1s)
abbrev X_f2 : Type := TPg
abbrev R_f2 : Type := Int × Int × Int
def J_f2 : BH Tryz.prog :=
 BR Tryz.prog Tryz.f65 81 [(1, 3)] [] [] [] [.any, .any, .any] [] [con_fg, con_f1s, con_f32] R_f2 [] fun y => [V.CG (V.cons ((V.int .i64) y.1) (V.cons ((V.int .i64) y.2.1) (V.cons ((V.int .i64) y.2.2) (V.unit))))]
def S_f2 : AR :=
 Aj Tryz.f65 1 0 X_f2 (fun x => [e_TPg x]) fun l => (d_TPg (at_ l 0))
structure X_f2_3 where
 DH : TPg
def S_f2_3 : AR :=
 Ak Tryz.f65 3 [(1, .any)] [] [] X_f2_3 (fun x => [(DQ e_TPg) x.DH]) fun l => ⟨(DR d_TPg) (at_ l 0)⟩
structure X_f2_4 where
 DH : TPg
 Ny : Int
def S_f2_4 : AR :=
 Ak Tryz.f65 4 (an [1, 5]) [] [] X_f2_4 (fun x => [(DQ e_TPg) x.DH, (V.int .i64) x.Ny]) fun l => ⟨(DR d_TPg) (at_ l 0), dI (at_ l 1)⟩
structure X_f2_8 where
 DH : TPg
def S_f2_8 : AR :=
 Ak Tryz.f65 8 [(1, .any)] [] [] X_f2_8 (fun x => [(DQ e_TPg) x.DH]) fun l => ⟨(DR d_TPg) (at_ l 0)⟩
structure X_f2_9 where
 DH : TPg
 Jp : Int
def S_f2_9 : AR :=
 Ak Tryz.f65 9 (an [1, 6]) [] [] X_f2_9 (fun x => [(DQ e_TPg) x.DH, (V.int .i64) x.Jp]) fun l => ⟨(DR d_TPg) (at_ l 0), dI (at_ l 1)⟩
structure X_f2_10 where
 DH : TPg
 Jp : Int
def S_f2_10 : AR :=
 Ak Tryz.f65 10 (an [1, 6]) [] [] X_f2_10 (fun x => [(DQ e_TPg) x.DH, (V.int .i64) x.Jp]) fun l => ⟨(DR d_TPg) (at_ l 0), dI (at_ l 1)⟩
structure X_f2_15 where
 DH : TPg
 Jp : Int
 NJ : (Sl TIn)
 NL : Int
def S_f2_15 : AR :=
 Ak Tryz.f65 15 [(1, .any), (6, .any), (7, hsl_TIn), (8, .any)] [] [] X_f2_15 (fun x => [(DQ e_TPg) x.DH, (V.int .i64) x.Jp, esl_TIn x.NJ, (V.int .i64) x.NL]) fun l => ⟨(DR d_TPg) (at_ l 0), dI (at_ l 1), dsl_TIn (at_ l 2), dI (at_ l 3)⟩
structure X_f2_16 where
 DH : TPg
 Jp : Int
 NJ : (Sl TIn)
 NL : Int
def S_f2_16 : AR :=
 Ak Tryz.f65 16 [(1, .any), (6, .any), (7, hsl_TIn), (8, .any)] [] [] X_f2_16 (fun x => [(DQ e_TPg) x.DH, (V.int .i64) x.Jp, esl_TIn x.NJ, (V.int .i64) x.NL]) fun l => ⟨(DR d_TPg) (at_ l 0), dI (at_ l 1), dsl_TIn (at_ l 2), dI (at_ l 3)⟩
structure X_f2_20 where
 DH : TPg
 Jp : Int
 NJ : (Sl TIn)
 NL : Int
 e_9 : Int
def S_f2_20 : AR :=
 Ak Tryz.f65 20 [(1, .any), (6, .any), (7, hsl_TIn), (8, .any), (9, .any)] [] [] X_f2_20 (fun x => [(DQ e_TPg) x.DH, (V.int .i64) x.Jp, esl_TIn x.NJ, (V.int .i64) x.NL, (V.int .i64) x.e_9]) fun l => ⟨(DR d_TPg) (at_ l 0), dI (at_ l 1), dsl_TIn (at_ l 2), dI (at_ l 3), dI (at_ l 4)⟩
def tt_f2_10 (D_f2_9 : AV X_f2_9 R_f2) (x : X_f2_10) : TT Tryz.prog R_f2 :=
 (.Ac S_f2_9 D_f2_9 (X_f2_9.mk x.DH (IntKind.i64.wrap (x.Jp + 1))))
theorem sd_f2_10 (D_f2_9 : AV X_f2_9 R_f2) (x : X_f2_10) : (tt_f2_10 D_f2_9 x).AH :=
 TT.sJ
def D_f2_10 (D_f2_9 : AV X_f2_9 R_f2) : AV X_f2_10 R_f2 := .of (tt_f2_10 D_f2_9)
theorem ok_f2_10 (D_f2_9 : AV X_f2_9 R_f2) (h_9 : AZ J_f2 S_f2_9 D_f2_9) : AZ J_f2 S_f2_10 (D_f2_10 D_f2_9) :=
 lk mxk (lbc h_9 rfl lbn) (sd_f2_10 D_f2_9)
def tt_f2_16 (_D_f2_9 : AV X_f2_9 R_f2) (D_f2_15 : AV X_f2_15 R_f2) (x : X_f2_16) : TT Tryz.prog R_f2 :=
 (.Ac S_f2_15 D_f2_15 (X_f2_15.mk x.DH x.Jp x.NJ (IntKind.i64.wrap (x.NL + 1))))
theorem sd_f2_16 (D_f2_9 : AV X_f2_9 R_f2) (D_f2_15 : AV X_f2_15 R_f2) (x : X_f2_16) : (tt_f2_16 D_f2_9 D_f2_15 x).AH :=
 TT.sJ
def D_f2_16 (D_f2_9 : AV X_f2_9 R_f2) (D_f2_15 : AV X_f2_15 R_f2) : AV X_f2_16 R_f2 := .of (tt_f2_16 D_f2_9 D_f2_15)
theorem ok_f2_16 (D_f2_9 : AV X_f2_9 R_f2) (D_f2_15 : AV X_f2_15 R_f2) (h_9 : AZ J_f2 S_f2_9 D_f2_9) (h_15 : AZ J_f2 S_f2_15 D_f2_15) : AZ J_f2 S_f2_16 (D_f2_16 D_f2_9 D_f2_15) :=
 lk mxk (lbc h_9 rfl (lbc h_15 rfl (lbc (ok_f2_10 D_f2_9 h_9) rfl lbn))) (sd_f2_16 D_f2_9 D_f2_15)
def tt_f2_20 (D_f2_9 : AV X_f2_9 R_f2) (D_f2_15 : AV X_f2_15 R_f2) (x : X_f2_20) : TT Tryz.prog R_f2 :=
 (.ite (!(Ad x.e_9 0))
 (.ret (x.Jp, (x.NL, x.e_9)))
 (.Ac S_f2_16 (D_f2_16 D_f2_9 D_f2_15) (X_f2_16.mk x.DH x.Jp x.NJ x.NL)))
theorem sd_f2_20 (D_f2_9 : AV X_f2_9 R_f2) (D_f2_15 : AV X_f2_15 R_f2) (x : X_f2_20) : (tt_f2_20 D_f2_9 D_f2_15 x).AH :=
 (TT.sI TT.sR TT.sJ)
def D_f2_20 (D_f2_9 : AV X_f2_9 R_f2) (D_f2_15 : AV X_f2_15 R_f2) : AV X_f2_20 R_f2 := .of (tt_f2_20 D_f2_9 D_f2_15)
theorem ok_f2_20 (D_f2_9 : AV X_f2_9 R_f2) (D_f2_15 : AV X_f2_15 R_f2) (h_9 : AZ J_f2 S_f2_9 D_f2_9) (h_15 : AZ J_f2 S_f2_15 D_f2_15) : AZ J_f2 S_f2_20 (D_f2_20 D_f2_9 D_f2_15) :=
 lk mxk (lbc h_9 rfl (lbc h_15 rfl (lbc (ok_f2_10 D_f2_9 h_9) rfl (lbc (ok_f2_16 D_f2_9 D_f2_15 h_9 h_15) rfl lbn)))) (sd_f2_20 D_f2_9 D_f2_15)
def tt_f2_15 (D_f2_9 : AV X_f2_9 R_f2) (D_f2_15 : AV X_f2_15 R_f2) (x : X_f2_15) : TT Tryz.prog R_f2 :=
 (.ite (Bu x.NL ((x.NJ.n : Nat) : Int))
 (.need (BA x.NL x.NJ.n) <|
 (.call con_fg (x.NJ.get (Int.toNat x.NL)) fun (y3 : R_fg) =>
 (.ite y3
 (.need (BA x.NL x.NJ.n) <|
 (.call con_f1s (x.DH, ((x.NJ.get (Int.toNat x.NL)), ((x.NJ.n : Nat) : Int))) fun (y4 : R_f1s) =>
 (.Ac S_f2_20 (D_f2_20 D_f2_9 D_f2_15) (X_f2_20.mk x.DH x.Jp x.NJ x.NL y4))))
 (.Ac S_f2_20 (D_f2_20 D_f2_9 D_f2_15) (X_f2_20.mk x.DH x.Jp x.NJ x.NL 6)))))
 (.Ac S_f2_10 (D_f2_10 D_f2_9) (X_f2_10.mk x.DH x.Jp)))
theorem sd_f2_15 (D_f2_9 : AV X_f2_9 R_f2) (D_f2_15 : AV X_f2_15 R_f2) (x : X_f2_15) : (tt_f2_15 D_f2_9 D_f2_15 x).AH :=
 (TT.sI (TT.sN (TT.sC fun _ => (TT.sI (TT.sN (TT.sC fun _ => TT.sJ)) TT.sJ))) TT.sJ)
def D_f2_15 (D_f2_9 : AV X_f2_9 R_f2) : AV X_f2_15 R_f2 := AV.loop (tt_f2_15 D_f2_9)
theorem ok_f2_15 (D_f2_9 : AV X_f2_9 R_f2) (h_9 : AZ J_f2 S_f2_9 D_f2_9) : AZ J_f2 S_f2_15 (D_f2_15 D_f2_9) :=
 BF fun D_f2_15 h_15 => lk mxk (lbc h_9 rfl (lbc h_15 rfl (lbc (ok_f2_10 D_f2_9 h_9) rfl (lbc (ok_f2_16 D_f2_9 D_f2_15 h_9 h_15) rfl (lbc (ok_f2_20 D_f2_9 D_f2_15 h_9 h_15) rfl lbn))))) (sd_f2_15 D_f2_9 D_f2_15)
def tt_f2_9 (D_f2_9 : AV X_f2_9 R_f2) (x : X_f2_9) : TT Tryz.prog R_f2 :=
 (.ite (Bu x.Jp ((x.DH.AD.n : Nat) : Int))
 (.need (BA x.Jp x.DH.AD.n) <|
 (.ite (Bu 256 (((x.DH.AD.get (Int.toNat x.Jp)).n : Nat) : Int))
 (.ret (x.Jp, (256, 4)))
 (.Ac S_f2_15 (D_f2_15 D_f2_9) (X_f2_15.mk x.DH x.Jp (x.DH.AD.get (Int.toNat x.Jp)) 0))))
 (.ret (0, (0, 0))))
theorem sd_f2_9 (D_f2_9 : AV X_f2_9 R_f2) (x : X_f2_9) : (tt_f2_9 D_f2_9 x).AH :=
 (TT.sI (TT.sN (TT.sI TT.sR TT.sJ)) TT.sR)
def D_f2_9 : AV X_f2_9 R_f2 := AV.loop tt_f2_9
theorem ok_f2_9 : AZ J_f2 S_f2_9 D_f2_9 :=
 BF fun D_f2_9 h_9 => lk mxk (lbc h_9 rfl (lbc (ok_f2_10 D_f2_9 h_9) rfl (lbc (ok_f2_15 D_f2_9 h_9) rfl lbn))) (sd_f2_9 D_f2_9)
def tt_f2_8 (x : X_f2_8) : TT Tryz.prog R_f2 :=
 (.Ac S_f2_9 D_f2_9 (X_f2_9.mk x.DH 0))
theorem sd_f2_8 (x : X_f2_8) : (tt_f2_8 x).AH :=
 TT.sJ
def D_f2_8 : AV X_f2_8 R_f2 := .of tt_f2_8
theorem ok_f2_8 : AZ J_f2 S_f2_8 D_f2_8 :=
 lk mxk (lbc ok_f2_9 rfl lbn) sd_f2_8
def tt_f2_4 (D_f2_4 : AV X_f2_4 R_f2) (x : X_f2_4) : TT Tryz.prog R_f2 :=
 (.ite (Bu x.Ny ((x.DH.AK.n : Nat) : Int))
 (.need (BA x.Ny x.DH.AK.n) <|
 (.call con_f32 (x.DH.AK.get (Int.toNat x.Ny)) fun (y2 : R_f32) =>
 (.ite (!y2)
 (.ret ((-(1 : Int)), (x.Ny, 7)))
 (.Ac S_f2_4 D_f2_4 (X_f2_4.mk x.DH (IntKind.i64.wrap (x.Ny + 1)))))))
 (.Ac S_f2_8 D_f2_8 (X_f2_8.mk x.DH)))
theorem sd_f2_4 (D_f2_4 : AV X_f2_4 R_f2) (x : X_f2_4) : (tt_f2_4 D_f2_4 x).AH :=
 (TT.sI (TT.sN (TT.sC fun _ => (TT.sI TT.sR TT.sJ))) TT.sJ)
def D_f2_4 : AV X_f2_4 R_f2 := AV.loop tt_f2_4
theorem ok_f2_4 : AZ J_f2 S_f2_4 D_f2_4 :=
 BF fun D_f2_4 h_4 => lk mxk (lbc h_4 rfl (lbc ok_f2_9 rfl (lbc ok_f2_8 rfl lbn))) (sd_f2_4 D_f2_4)
def tt_f2_3 (x : X_f2_3) : TT Tryz.prog R_f2 :=
 (.Ac S_f2_4 D_f2_4 (X_f2_4.mk x.DH 0))
theorem sd_f2_3 (x : X_f2_3) : (tt_f2_3 x).AH :=
 TT.sJ
def D_f2_3 : AV X_f2_3 R_f2 := .of tt_f2_3
theorem ok_f2_3 : AZ J_f2 S_f2_3 D_f2_3 :=
 lk mxk (lbc ok_f2_9 rfl (lbc ok_f2_8 rfl (lbc ok_f2_4 rfl lbn))) sd_f2_3
def tt_f2 (x : X_f2) : TT Tryz.prog R_f2 :=
 (.ite (Ad ((x.AD.n : Nat) : Int) 0)
 (.ret (0, (0, 1)))
 (.ite (Bu 8 ((x.AD.n : Nat) : Int))
 (.ret (0, (0, 1)))
 (.ite (Bu 8 ((x.AK.n : Nat) : Int))
 (.ret (0, (0, 1)))
 (.Ac S_f2_3 D_f2_3 (X_f2_3.mk x)))))
theorem sd_f2 (x : X_f2) : (tt_f2 x).AH :=
 (TT.sI TT.sR (TT.sI TT.sR (TT.sI TT.sR TT.sJ)))
def D_f2 : AV X_f2 R_f2 := .of tt_f2
def con_f2 : BC Tryz.prog :=
 CH 65 J_f2 S_f2 D_f2 1 0 [sh_TPg] (lk mxk (lbc ok_f2_9 rfl (lbc ok_f2_8 rfl (lbc ok_f2_4 rfl (lbc ok_f2_3 rfl lbn)))) sd_f2)
abbrev X_f2x : Type := TPg
abbrev R_f2x : Type := Bool
def J_f2x : BH Tryz.prog :=
 BR Tryz.prog Tryz.f40 14 [(1, 3), (6, 1)] [] [] [] [.any] [] [con_f2] R_f2x [] fun y => [V.bool y]
def S_f2x : AR :=
 Aj Tryz.f40 1 0 X_f2x (fun x => [e_TPg x]) fun l => (d_TPg (at_ l 0))
def tt_f2x (x : X_f2x) : TT Tryz.prog R_f2x :=
 (.call con_f2 x fun (y1 : R_f2) =>
 (.ret (Ad y1.snd.snd 0)))
theorem sd_f2x (x : X_f2x) : (tt_f2x x).AH :=
 (TT.sC fun _ => TT.sR)
def D_f2x : AV X_f2x R_f2x := .of tt_f2x
def con_f2x : BC Tryz.prog :=
 CH 40 J_f2x S_f2x D_f2x 1 0 [sh_TPg] (lk mxk lbn sd_f2x)
abbrev X_f2y : Type := TPg
abbrev R_f2y : Type := Bool
def J_f2y : BH Tryz.prog :=
 BR Tryz.prog Tryz.f20 5 [(1, 3)] [] [] [] [.any] [] [con_f2x] R_f2y [] fun y => [V.bool y]
def S_f2y : AR :=
 Aj Tryz.f20 1 0 X_f2y (fun x => [e_TPg x]) fun l => (d_TPg (at_ l 0))
def tt_f2y (x : X_f2y) : TT Tryz.prog R_f2y :=
 (.call con_f2x x fun (y1 : R_f2x) =>
 (.ret y1))
theorem sd_f2y (x : X_f2y) : (tt_f2y x).AH :=
 (TT.sC fun _ => TT.sR)
def D_f2y : AV X_f2y R_f2y := .of tt_f2y
def con_f2y : BC Tryz.prog :=
 CH 20 J_f2y S_f2y D_f2y 1 0 [sh_TPg] (lk mxk lbn sd_f2y)
abbrev X_f35 : Type := TPg
abbrev R_f35 : Type := Bool
def J_f35 : BH Tryz.prog :=
 BR Tryz.prog Tryz.f5 9 [(1, 3)] [] [] [] [.any] [] [con_f1c, con_f2y] R_f35 [] fun y => [V.bool y]
def S_f35 : AR :=
 Aj Tryz.f5 1 0 X_f35 (fun x => [e_TPg x]) fun l => (d_TPg (at_ l 0))
def tt_f35 (x : X_f35) : TT Tryz.prog R_f35 :=
 (.call con_f1c (x, 100) fun (y1 : R_f1c) =>
 (.ite y1
 (.call con_f2y x fun (y2 : R_f2y) =>
 (.ret y2))
 (.ret false)))
theorem sd_f35 (x : X_f35) : (tt_f35 x).AH :=
 (TT.sC fun _ => (TT.sI (TT.sC fun _ => TT.sR) TT.sR))
def D_f35 : AV X_f35 R_f35 := .of tt_f35
def con_f35 : BC Tryz.prog :=
 CH 5 J_f35 S_f35 D_f35 1 0 [sh_TPg] (lk mxk lbn sd_f35)
abbrev X_f1w : Type := (Sl Int) × (Sl Int)
abbrev R_f1w : Type := Bool
def J_f1w : BH Tryz.prog :=
 BR Tryz.prog Tryz.f8 26 [] [] [] [] [.any] [] [] R_f1w [] fun y => [V.bool y]
def S_f1w : AR :=
 Aj Tryz.f8 2 0 X_f1w (fun x => [CW x.1, CW x.2]) fun l => (ED (at_ l 0), ED (at_ l 1))
structure X_f1w_4 where
 TC : (Sl Int)
 b_1 : (Sl Int)
 Ny : Int
def S_f1w_4 : AR :=
 Ak Tryz.f8 4 [(0, C5), (1, C5), (5, .any)] [] [] X_f1w_4 (fun x => [CW x.TC, CW x.b_1, (V.int .i64) x.Ny]) fun l => ⟨ED (at_ l 0), ED (at_ l 1), dI (at_ l 2)⟩
def tt_f1w_4 (D_f1w_4 : AV X_f1w_4 R_f1w) (x : X_f1w_4) : TT Tryz.prog R_f1w :=
 (.ite (Bu x.Ny ((x.TC.n : Nat) : Int))
 (.need (BA x.Ny x.TC.n) <|
 (.need (BA x.Ny x.b_1.n) <|
 (.ite (!(Ad (x.TC.get (Int.toNat x.Ny)) (x.b_1.get (Int.toNat x.Ny))))
 (.ret false)
 (.Ac S_f1w_4 D_f1w_4 (X_f1w_4.mk x.TC x.b_1 (IntKind.i64.wrap (x.Ny + 1)))))))
 (.ret true))
theorem sd_f1w_4 (D_f1w_4 : AV X_f1w_4 R_f1w) (x : X_f1w_4) : (tt_f1w_4 D_f1w_4 x).AH :=
 (TT.sI (TT.sN (TT.sN (TT.sI TT.sR TT.sJ))) TT.sR)
def D_f1w_4 : AV X_f1w_4 R_f1w := AV.loop tt_f1w_4
theorem ok_f1w_4 : AZ J_f1w S_f1w_4 D_f1w_4 :=
 BF fun D_f1w_4 h_4 => lk mxk (lbc h_4 rfl lbn) (sd_f1w_4 D_f1w_4)
def tt_f1w (x : X_f1w) : TT Tryz.prog R_f1w :=
 (.ite (!(Ad ((x.fst.n : Nat) : Int) ((x.snd.n : Nat) : Int)))
 (.ret false)
 (.Ac S_f1w_4 D_f1w_4 (X_f1w_4.mk x.fst x.snd 0)))
theorem sd_f1w (x : X_f1w) : (tt_f1w x).AH :=
 (TT.sI TT.sR TT.sJ)
def D_f1w : AV X_f1w R_f1w := .of tt_f1w
def con_f1w : BC Tryz.prog :=
 CH 8 J_f1w S_f1w D_f1w 2 0 [C5, C5] (lk mxk (lbc ok_f1w_4 rfl lbn) sd_f1w)
abbrev Dsl_TEv : Type := (Sl TEv)
def esl_TEv : Dsl_TEv → V := (MY none 5 e_TEv)
def dsl_TEv : V → Dsl_TEv := (LW d_TEv)
def hsl_TEv : Sh := (.sl none 5 (e_TEv (d_TEv .undef)))
def Pv (K : Nat) (v : Int) (m : Nat → Sl Int) : V :=
 V.arr 1 8 fun j => V.mix (Nat.beq j K) (CO (Sl.mk (cond (Nat.beq 1 0) (m K).nil false) ((m K).n + 1) (fun i => cond (Nat.blt i (m K).n) ((m K).get i) v))) (V.mix (Nat.beq j K) (CO (m K)).AL (CO (m j)))
def I1 (K : Nat) (v : Int) (m : Nat → Sl Int) : Nat → Sl Int := fun i3 => Sl.mk (cond (Nat.beq i3 K) (cond (Nat.beq 1 0) (m K).nil false) (cond (Nat.beq i3 K) (m K).nil (m i3).nil)) (cond (Nat.beq i3 K) ((m K).n + 1) (cond (Nat.beq i3 K) (m K).n (m i3).n))
 fun i4 => cond (Nat.beq i3 K) (cond (Nat.blt i4 (m K).n) ((m K).get i4) v) (cond (Nat.beq i3 K) ((m K).get i4) ((m i3).get i4))
def Pu (K : Nat) (v : Int) (m : Nat → Sl Int) (l : List V) : Prop := l.set 7 (Pv K v m) = l
theorem Pt {K : Nat} {v : Int} {m : Nat → Sl Int} {l : List V} (h : l[7]? = some (Fw 1 8 CO (I1 K v m))) : Pu K v m l := by
 have e : Pv K v m = Fw 1 8 CO (I1 K v m) := by
  unfold Pv Fw
  congr 1
  funext j
  rw [V.Ch, V.Ch]
  unfold I1
  generalize Nat.beq j K = b
  cases b <;> rfl
 obtain ⟨hl, he⟩ := List.getElem?_eq_some_iff.1 h
 unfold Pu
 rw [e, ← he]
 exact List.set_getElem_self hl
abbrev X_f3 : Type := TPg × (Sl TEv)
abbrev R_f3 : Type := Bool
def J_f3 : BH Tryz.prog :=
 BR Tryz.prog Tryz.f3 94 [(2, 3), (26, 1), (33, 1), (56, 1)] [(4, [.open_ 5])] [] [] [.any] [] [con_f1l, con_f12, con_f13, con_f10, con_f1w, con_f2s, con_f35] R_f3 [] fun y => [V.bool y]
def S_f3 : AR :=
 Aj Tryz.f3 2 0 X_f3 (fun x => [e_TPg x.1, esl_TEv x.2]) fun l => (d_TPg (at_ l 0), dsl_TEv (at_ l 1))
structure X_f3_3 where
 l_1 : (Sl TEv)
 Dj : TPg
def S_f3_3 : AR :=
 Ak Tryz.f3 3 [(1, hsl_TEv), (2, .any)] [] [] X_f3_3 (fun x => [esl_TEv x.l_1, (DQ e_TPg) x.Dj]) fun l => ⟨dsl_TEv (at_ l 0), (DR d_TPg) (at_ l 1)⟩
structure X_f3_9 where
 Dj : TPg
 BU : (Sl TEv)
 IM : Int
 BP : Int
 Ep : (Nat → (Sl Int))
 H3 : (Nat → Bool)
 Ic : TFa
def S_f3_9 : AR :=
 Ak Tryz.f3 9 [(2, .any), (5, .any), (7, .any), (8, .any), (33, hsl_TEv), (34, .any), (35, .any)] [] [(.loc 7 0, .any), (.loc 8 0, .any), (.loc 5 1, sh_TFa)] X_f3_9 (fun x => [(DQ e_TPg) x.Dj, (V.ptr (.loc 5 1) []), (V.ptr (.loc 7 0) []), (V.ptr (.loc 8 0) []), esl_TEv x.BU, (V.int .i64) x.IM, (V.int .i64) x.BP, (Fw 1 8 CO) x.Ep, (Fw 1 8 V.bool) x.H3, e_TFa x.Ic]) fun l => ⟨(DR d_TPg) (at_ l 0), dsl_TEv (at_ l 4), dI (at_ l 5), dI (at_ l 6), (JZ Fy) (at_ l 7), (JZ dB) (at_ l 8), d_TFa (at_ l 9)⟩
structure X_f3_21 where
 Dj : TPg
 BU : (Sl TEv)
 IM : Int
 BP : Int
 Ep : (Nat → (Sl Int))
 H3 : (Nat → Bool)
 Ic : TFa
def S_f3_21 : AR :=
 Ak Tryz.f3 21 [(2, .any), (5, .any), (7, .any), (8, .any), (33, hsl_TEv), (34, .any), (35, .any)] [] [(.loc 7 0, .any), (.loc 8 0, .any), (.loc 5 1, sh_TFa)] X_f3_21 (fun x => [(DQ e_TPg) x.Dj, (V.ptr (.loc 5 1) []), (V.ptr (.loc 7 0) []), (V.ptr (.loc 8 0) []), esl_TEv x.BU, (V.int .i64) x.IM, (V.int .i64) x.BP, (Fw 1 8 CO) x.Ep, (Fw 1 8 V.bool) x.H3, e_TFa x.Ic]) fun l => ⟨(DR d_TPg) (at_ l 0), dsl_TEv (at_ l 4), dI (at_ l 5), dI (at_ l 6), (JZ Fy) (at_ l 7), (JZ dB) (at_ l 8), d_TFa (at_ l 9)⟩
structure X_f3_22 where
 Dj : TPg
 Ep : (Nat → (Sl Int))
 H3 : (Nat → Bool)
 Ic : TFa
def S_f3_22 : AR :=
 Ak Tryz.f3 22 (an [2, 5, 7, 8]) [] [(.loc 7 0, .any), (.loc 8 0, .any), (.loc 5 1, sh_TFa)] X_f3_22 (fun x => [(DQ e_TPg) x.Dj, (V.ptr (.loc 5 1) []), (V.ptr (.loc 7 0) []), (V.ptr (.loc 8 0) []), (Fw 1 8 CO) x.Ep, (Fw 1 8 V.bool) x.H3, e_TFa x.Ic]) fun l => ⟨(DR d_TPg) (at_ l 0), (JZ Fy) (at_ l 4), (JZ dB) (at_ l 5), d_TFa (at_ l 6)⟩
structure X_f3_23 where
 M7 : Int
 Gs : Int
 Ep : (Nat → (Sl Int))
 H3 : (Nat → Bool)
 Ic : TFa
def S_f3_23 : AR :=
 Ak Tryz.f3 23 (an [5, 7, 8, 70, 71]) [] [(.loc 7 0, .any), (.loc 8 0, .any), (.loc 5 1, sh_TFa)] X_f3_23 (fun x => [(V.ptr (.loc 5 1) []), (V.ptr (.loc 7 0) []), (V.ptr (.loc 8 0) []), (V.int .i64) x.M7, (V.int .i64) x.Gs, (Fw 1 8 CO) x.Ep, (Fw 1 8 V.bool) x.H3, e_TFa x.Ic]) fun l => ⟨dI (at_ l 3), dI (at_ l 4), (JZ Fy) (at_ l 5), (JZ dB) (at_ l 6), d_TFa (at_ l 7)⟩
structure X_f3_27 where
 M7 : Int
 Gs : Int
 Ep : (Nat → (Sl Int))
 H3 : (Nat → Bool)
 Ic : TFa
def S_f3_27 : AR :=
 Ak Tryz.f3 27 (an [5, 7, 8, 70, 71]) [] [(.loc 7 0, .any), (.loc 8 0, .any), (.loc 5 1, sh_TFa)] X_f3_27 (fun x => [(V.ptr (.loc 5 1) []), (V.ptr (.loc 7 0) []), (V.ptr (.loc 8 0) []), (V.int .i64) x.M7, (V.int .i64) x.Gs, (Fw 1 8 CO) x.Ep, (Fw 1 8 V.bool) x.H3, e_TFa x.Ic]) fun l => ⟨dI (at_ l 3), dI (at_ l 4), (JZ Fy) (at_ l 5), (JZ dB) (at_ l 6), d_TFa (at_ l 7)⟩
def tt_f3_27 (D_f3_23 : AV X_f3_23 R_f3) (x : X_f3_27) : TT Tryz.prog R_f3 :=
 (.Ac S_f3_23 D_f3_23 (X_f3_23.mk x.M7 (IntKind.i64.wrap (x.Gs + 1)) x.Ep x.H3 x.Ic))
theorem sd_f3_27 (D_f3_23 : AV X_f3_23 R_f3) (x : X_f3_27) : (tt_f3_27 D_f3_23 x).AH :=
 TT.sJ
def D_f3_27 (D_f3_23 : AV X_f3_23 R_f3) : AV X_f3_27 R_f3 := .of (tt_f3_27 D_f3_23)
theorem ok_f3_27 (D_f3_23 : AV X_f3_23 R_f3) (h_23 : AZ J_f3 S_f3_23 D_f3_23) : AZ J_f3 S_f3_27 (D_f3_27 D_f3_23) :=
 lk mxk (lbc h_23 rfl lbn) (sd_f3_27 D_f3_23)
def tt_f3_23 (D_f3_23 : AV X_f3_23 R_f3) (x : X_f3_23) : TT Tryz.prog R_f3 :=
 (.ite (Bu x.Gs x.M7)
 (.call con_f13 (x.Gs, x.Ic) fun (y2 : R_f13) =>
 (.need (BA (Vm.bits .and IntKind.i64 x.Gs 7) 8) <|
 (.call con_f1w (y2, (x.Ep (Int.toNat (Vm.bits .and IntKind.i64 x.Gs 7)))) fun (y3 : R_f1w) =>
 (.ite (!y3)
 (.ret false)
 (.call con_f12 (x.Gs, x.Ic) fun (y4 : R_f12) =>
 (.need (BA (Vm.bits .and IntKind.i64 x.Gs 7) 8) <|
 (.ite (y4 == (x.H3 (Int.toNat (Vm.bits .and IntKind.i64 x.Gs 7))))
 (.ret false)
 (.Ac S_f3_27 (D_f3_27 D_f3_23) (X_f3_27.mk x.M7 x.Gs x.Ep x.H3 x.Ic)))))))))
 (.ret true))
theorem sd_f3_23 (D_f3_23 : AV X_f3_23 R_f3) (x : X_f3_23) : (tt_f3_23 D_f3_23 x).AH :=
 (TT.sI (TT.sC fun _ => (TT.sN (TT.sC fun _ => (TT.sI TT.sR (TT.sC fun _ => (TT.sN (TT.sI TT.sR TT.sJ))))))) TT.sR)
def D_f3_23 : AV X_f3_23 R_f3 := AV.loop tt_f3_23
theorem ok_f3_23 : AZ J_f3 S_f3_23 D_f3_23 :=
 BF fun D_f3_23 h_23 => lk mxk (lbc h_23 rfl (lbc (ok_f3_27 D_f3_23 h_23) rfl lbn)) (sd_f3_23 D_f3_23)
def tt_f3_22 (x : X_f3_22) : TT Tryz.prog R_f3 :=
 (.Ac S_f3_23 D_f3_23 (X_f3_23.mk ((x.Dj.AD.n : Nat) : Int) 0 x.Ep x.H3 x.Ic))
theorem sd_f3_22 (x : X_f3_22) : (tt_f3_22 x).AH :=
 TT.sJ
def D_f3_22 : AV X_f3_22 R_f3 := .of tt_f3_22
theorem ok_f3_22 : AZ J_f3 S_f3_22 D_f3_22 :=
 lk mxk (lbc ok_f3_23 rfl lbn) sd_f3_22
def tt_f3_21 (D_f3_9 : AV X_f3_9 R_f3) (x : X_f3_21) : TT Tryz.prog R_f3 :=
 (.Ac S_f3_9 D_f3_9 (X_f3_9.mk x.Dj x.BU x.IM (IntKind.i64.wrap (x.BP + 1)) x.Ep x.H3 x.Ic))
theorem sd_f3_21 (D_f3_9 : AV X_f3_9 R_f3) (x : X_f3_21) : (tt_f3_21 D_f3_9 x).AH :=
 TT.sJ
def D_f3_21 (D_f3_9 : AV X_f3_9 R_f3) : AV X_f3_21 R_f3 := .of (tt_f3_21 D_f3_9)
theorem ok_f3_21 (D_f3_9 : AV X_f3_9 R_f3) (h_9 : AZ J_f3 S_f3_9 D_f3_9) : AZ J_f3 S_f3_21 (D_f3_21 D_f3_9) :=
 lk mxk (lbc h_9 rfl (lbc ok_f3_23 rfl (lbc ok_f3_22 rfl lbn))) (sd_f3_21 D_f3_9)
def tt_f3_9 (D_f3_9 : AV X_f3_9 R_f3) (x : X_f3_9) : TT Tryz.prog R_f3 :=
 (.ite (Bu x.BP x.IM)
 (.need (BA x.BP x.BU.n) <|
 (.call con_f1l ((x.BU.get (Int.toNat x.BP)), x.Ic) fun (y2 : R_f1l) =>
 (.ite (!(Ad y2.fst 0))
 (.Ac S_f3_21 (D_f3_21 D_f3_9) (X_f3_21.mk x.Dj x.BU x.IM x.BP x.Ep x.H3 y2.snd))
 (.need (BA (Vm.bits .and IntKind.i64 (x.BU.get (Int.toNat x.BP)).Thread 7) 8) <|
 (.ite (x.H3 (Int.toNat (Vm.bits .and IntKind.i64 (x.BU.get (Int.toNat x.BP)).Thread 7)))
 (.ret false)
 (.ite (Ad (x.BU.get (Int.toNat x.BP)).Kind 12)
 (.need (BA (Vm.bits .and IntKind.i64 (x.BU.get (Int.toNat x.BP)).Thread 7) 8) <|
 (.need (true && (room ((x.Ep (Int.toNat (Vm.bits .and IntKind.i64 (x.BU.get (Int.toNat x.BP)).Thread 7))).n + 1) 8)) <|
 (.need (BA (Vm.bits .and IntKind.i64 (x.BU.get (Int.toNat x.BP)).Thread 7) 8) <|
 (.GR (Pu (Int.toNat (Vm.bits .and IntKind.i64 (x.BU.get (Int.toNat x.BP)).Thread 7)) (x.BU.get (Int.toNat x.BP)).Value x.Ep (S_f3_21.enc (X_f3_21.mk x.Dj x.BU x.IM x.BP (fun i3 => (Sl.mk (cond (Nat.beq i3 (Int.toNat (Vm.bits .and IntKind.i64 (x.BU.get (Int.toNat x.BP)).Thread 7))) (cond (Nat.beq 1 0) (x.Ep (Int.toNat (Vm.bits .and IntKind.i64 (x.BU.get (Int.toNat x.BP)).Thread 7))).nil false) (cond (Nat.beq i3 (Int.toNat (Vm.bits .and IntKind.i64 (x.BU.get (Int.toNat x.BP)).Thread 7))) (x.Ep (Int.toNat (Vm.bits .and IntKind.i64 (x.BU.get (Int.toNat x.BP)).Thread 7))).nil (x.Ep i3).nil)) (cond (Nat.beq i3 (Int.toNat (Vm.bits .and IntKind.i64 (x.BU.get (Int.toNat x.BP)).Thread 7))) ((x.Ep (Int.toNat (Vm.bits .and IntKind.i64 (x.BU.get (Int.toNat x.BP)).Thread 7))).n + 1) (cond (Nat.beq i3 (Int.toNat (Vm.bits .and IntKind.i64 (x.BU.get (Int.toNat x.BP)).Thread 7))) (x.Ep (Int.toNat (Vm.bits .and IntKind.i64 (x.BU.get (Int.toNat x.BP)).Thread 7))).n (x.Ep i3).n)) (fun i4 => (cond (Nat.beq i3 (Int.toNat (Vm.bits .and IntKind.i64 (x.BU.get (Int.toNat x.BP)).Thread 7))) (cond (Nat.blt i4 (x.Ep (Int.toNat (Vm.bits .and IntKind.i64 (x.BU.get (Int.toNat x.BP)).Thread 7))).n) ((x.Ep (Int.toNat (Vm.bits .and IntKind.i64 (x.BU.get (Int.toNat x.BP)).Thread 7))).get i4) (x.BU.get (Int.toNat x.BP)).Value) (cond (Nat.beq i3 (Int.toNat (Vm.bits .and IntKind.i64 (x.BU.get (Int.toNat x.BP)).Thread 7))) ((x.Ep (Int.toNat (Vm.bits .and IntKind.i64 (x.BU.get (Int.toNat x.BP)).Thread 7))).get i4) ((x.Ep i3).get i4)))))) x.H3 y2.snd))) S_f3_21 (D_f3_21 D_f3_9) (X_f3_21.mk x.Dj x.BU x.IM x.BP (fun i3 => (Sl.mk (cond (Nat.beq i3 (Int.toNat (Vm.bits .and IntKind.i64 (x.BU.get (Int.toNat x.BP)).Thread 7))) (cond (Nat.beq 1 0) (x.Ep (Int.toNat (Vm.bits .and IntKind.i64 (x.BU.get (Int.toNat x.BP)).Thread 7))).nil false) (cond (Nat.beq i3 (Int.toNat (Vm.bits .and IntKind.i64 (x.BU.get (Int.toNat x.BP)).Thread 7))) (x.Ep (Int.toNat (Vm.bits .and IntKind.i64 (x.BU.get (Int.toNat x.BP)).Thread 7))).nil (x.Ep i3).nil)) (cond (Nat.beq i3 (Int.toNat (Vm.bits .and IntKind.i64 (x.BU.get (Int.toNat x.BP)).Thread 7))) ((x.Ep (Int.toNat (Vm.bits .and IntKind.i64 (x.BU.get (Int.toNat x.BP)).Thread 7))).n + 1) (cond (Nat.beq i3 (Int.toNat (Vm.bits .and IntKind.i64 (x.BU.get (Int.toNat x.BP)).Thread 7))) (x.Ep (Int.toNat (Vm.bits .and IntKind.i64 (x.BU.get (Int.toNat x.BP)).Thread 7))).n (x.Ep i3).n)) (fun i4 => (cond (Nat.beq i3 (Int.toNat (Vm.bits .and IntKind.i64 (x.BU.get (Int.toNat x.BP)).Thread 7))) (cond (Nat.blt i4 (x.Ep (Int.toNat (Vm.bits .and IntKind.i64 (x.BU.get (Int.toNat x.BP)).Thread 7))).n) ((x.Ep (Int.toNat (Vm.bits .and IntKind.i64 (x.BU.get (Int.toNat x.BP)).Thread 7))).get i4) (x.BU.get (Int.toNat x.BP)).Value) (cond (Nat.beq i3 (Int.toNat (Vm.bits .and IntKind.i64 (x.BU.get (Int.toNat x.BP)).Thread 7))) ((x.Ep (Int.toNat (Vm.bits .and IntKind.i64 (x.BU.get (Int.toNat x.BP)).Thread 7))).get i4) ((x.Ep i3).get i4)))))) x.H3 y2.snd)))))
 (.ite (Ad (x.BU.get (Int.toNat x.BP)).Kind 14)
 (.need (BA (Vm.bits .and IntKind.i64 (x.BU.get (Int.toNat x.BP)).Thread 7) 8) <|
 (.Ac S_f3_21 (D_f3_21 D_f3_9) (X_f3_21.mk x.Dj x.BU x.IM x.BP x.Ep (fun i3 => (cond (Nat.beq i3 (Int.toNat (Vm.bits .and IntKind.i64 (x.BU.get (Int.toNat x.BP)).Thread 7))) true (x.H3 i3))) y2.snd)))
 (.ite (Ad (x.BU.get (Int.toNat x.BP)).Kind 15)
 (.need (BA (Vm.bits .and IntKind.i64 (x.BU.get (Int.toNat x.BP)).Thread 7) 8) <|
 (.Ac S_f3_21 (D_f3_21 D_f3_9) (X_f3_21.mk x.Dj x.BU x.IM x.BP x.Ep (fun i3 => (cond (Nat.beq i3 (Int.toNat (Vm.bits .and IntKind.i64 (x.BU.get (Int.toNat x.BP)).Thread 7))) true (x.H3 i3))) y2.snd)))
 (.Ac S_f3_21 (D_f3_21 D_f3_9) (X_f3_21.mk x.Dj x.BU x.IM x.BP x.Ep x.H3 y2.snd))))))))))
 (.Ac S_f3_22 D_f3_22 (X_f3_22.mk x.Dj x.Ep x.H3 x.Ic)))
theorem sd_f3_9 (D_f3_9 : AV X_f3_9 R_f3) (x : X_f3_9) : (tt_f3_9 D_f3_9 x).AH :=
 (TT.sI (TT.sN (TT.sC fun _ => (TT.sI TT.sJ (TT.sN (TT.sI TT.sR (TT.sI (TT.sN (TT.sN (TT.sN (TT.RE (Pt rfl))))) (TT.sI (TT.sN TT.sJ) (TT.sI (TT.sN TT.sJ) TT.sJ)))))))) TT.sJ)
def D_f3_9 : AV X_f3_9 R_f3 := AV.loop tt_f3_9
theorem ok_f3_9 : AZ J_f3 S_f3_9 D_f3_9 :=
 BF fun D_f3_9 h_9 => lk mxk (lbc h_9 rfl (lbc ok_f3_23 rfl (lbc ok_f3_22 rfl (lbc (ok_f3_21 D_f3_9 h_9) rfl lbn)))) (sd_f3_9 D_f3_9)
def tt_f3_3 (x : X_f3_3) : TT Tryz.prog R_f3 :=
 (.call con_f10 x.Dj fun (y1 : R_f10) =>
 (.need (!y1.fst.nil) <|
 (.Ac S_f3_9 D_f3_9 (X_f3_9.mk x.Dj x.l_1 ((x.l_1.n : Nat) : Int) 0 (fun _i2 => (Sl.mk true 0 (fun _i3 => (0 : Int)))) (fun _i2 => false) y1.fst.x))))
theorem sd_f3_3 (x : X_f3_3) : (tt_f3_3 x).AH :=
 (TT.sC fun _ => (TT.sN TT.sJ))
def D_f3_3 : AV X_f3_3 R_f3 := .of tt_f3_3
theorem ok_f3_3 : AZ J_f3 S_f3_3 D_f3_3 :=
 lk mxk (lbc ok_f3_23 rfl (lbc ok_f3_22 rfl (lbc ok_f3_9 rfl lbn))) sd_f3_3
def tt_f3 (x : X_f3) : TT Tryz.prog R_f3 :=
 (.call con_f2s PUnit.unit fun (y1 : R_f2s) =>
 (.ite (!y1)
 (.call con_f2s PUnit.unit fun (y2 : R_f2s) =>
 (.ret y2))
 (.call con_f35 x.fst fun (y2 : R_f35) =>
 (.ite (!y2)
 (.call con_f2s PUnit.unit fun (y3 : R_f2s) =>
 (.ret y3))
 (.ite (Bu 80 ((x.snd.n : Nat) : Int))
 (.call con_f2s PUnit.unit fun (y3 : R_f2s) =>
 (.ret y3))
 (.Ac S_f3_3 D_f3_3 (X_f3_3.mk x.snd x.fst)))))))
theorem sd_f3 (x : X_f3) : (tt_f3 x).AH :=
 (TT.sC fun _ => (TT.sI (TT.sC fun _ => TT.sR) (TT.sC fun _ => (TT.sI (TT.sC fun _ => TT.sR) (TT.sI (TT.sC fun _ => TT.sR) TT.sJ)))))
def D_f3 : AV X_f3 R_f3 := .of tt_f3
def con_f3 : BC Tryz.prog :=
 CH 3 J_f3 S_f3 D_f3 2 0 [sh_TPg, hsl_TEv] (lk mxk (lbc ok_f3_23 rfl (lbc ok_f3_22 rfl (lbc ok_f3_9 rfl (lbc ok_f3_3 rfl lbn)))) sd_f3)
end Go.Proofs.YtlhifcnjnmeknaaGreat
end
