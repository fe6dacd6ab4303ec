/- What functions of the program come to, part B: no statement is proved here. -/
import Derived.Test.YtlhifcnjnmeknaaGreatDoorGA
noncomputable section
namespace Go.Proofs.YtlhifcnjnmeknaaGreatDoor
open Go Go.Vm Go.Proofs
set_option maxRecDepth 100000
abbrev X_fd : Type := TEv × TFa
abbrev R_fd : Type := Bool
abbrev RR_fd : Type := Bool × TFa
abbrev p_fd (y : RR_fd) : TFa := y.2
abbrev w_fd (x : X_fd) : TFa := x.2
def J_fd : A8 Tryz.prog :=
 BD Tryz.prog Tryz.f29 103 [(3, 3)] [(8, [.back (.loc 30 0), .back (.loc 26 0)]), (9, [.back (.loc 30 0), .back (.loc 26 0)]), (10, [.back (.loc 47 0), .back (.loc 43 0), .back (.loc 30 0), .back (.loc 26 0)]), (11, [.back (.loc 47 0), .back (.loc 43 0), .back (.loc 30 0), .back (.loc 26 0)]), (12, [.back (.loc 47 0), .back (.loc 43 0), .back (.loc 30 0), .back (.loc 26 0)]), (13, [.back (.loc 47 0), .back (.loc 43 0), .back (.loc 30 0), .back (.loc 26 0)]), (14, [.back (.loc 47 0), .back (.loc 43 0), .back (.loc 30 0), .back (.loc 26 0)]), (15, [.back (.loc 47 0), .back (.loc 43 0), .back (.loc 30 0), .back (.loc 26 0)]), (16, [.back (.loc 90 0), .back (.loc 86 0), .back (.loc 47 0), .back (.loc 43 0), .back (.loc 30 0), .back (.loc 26 0)])] [] [.back (.loc 90 0), .back (.loc 86 0), .back (.loc 47 0), .back (.loc 43 0), .back (.loc 30 0), .back (.loc 26 0)] [.any] [sh_TFa] [con_f17, con_f15, con_f1b, con_f14, con_f2z, con_f1c] RR_fd [] fun y => [V.bool y.1, e_TFa y.2]
def S_fd : AM :=
 Ae Tryz.f29 2 1 X_fd (fun x => [(V.ptr (.par 0) []), e_TEv x.1, e_TFa x.2]) fun l => (d_TEv (at_ l 1), d_TFa (at_ l 2))
structure X_fd_16 where
 DB : TEv
 Ah : TFa
 A7 : TAk
def S_fd_16 : AM :=
 Ad Tryz.f29 16 (an [0, 3, 5]) [sh_TFa] [(.loc 5 0, .any)] X_fd_16 (fun x => [(V.ptr (.par 0) []), (C2 e_TEv) x.DB, (V.ptr (.loc 5 0) []), e_TFa x.Ah, e_TAk x.A7]) fun l => ⟨(C3 d_TEv) (at_ l 1), d_TFa (at_ l 3), d_TAk (at_ l 4)⟩
abbrev w_fd_16 (x : X_fd_16) : TFa := (x.Ah)
def tt_fd_16 (x : X_fd_16) : TT Tryz.prog RR_fd :=
 (.call con_f2z x.DB fun (y1 : R_f2z) =>
 (.ite (!y1)
 (.ret (true, x.Ah))
 (.call con_f1b (x.DB, (x.A7, x.Ah)) fun (y2 : R_f1b) =>
 (.ret (y2, x.Ah)))))
theorem sd_fd_16 (x : X_fd_16) : (tt_fd_16 x).AH :=
 (TT.sC fun _ => (TT.sI TT.sR (TT.sC fun _ => TT.sR)))
theorem roT_fd_16 (x : X_fd_16) : TT.Ro p_fd (w_fd_16 x) (tt_fd_16 x) :=
 (TT.rC fun _ => (TT.rI (TT.rR rfl) (TT.rC fun _ => (TT.rR rfl))))
def D_fd_16 : AU X_fd_16 RR_fd := .of tt_fd_16
theorem ok_fd_16 : AW J_fd S_fd_16 D_fd_16 :=
 lk mxk lbn sd_fd_16
theorem ro_fd_16 : ∀ x y, D_fd_16.rel x y → p_fd y = w_fd_16 x :=
 roT_fd_16 
def tt_fd (x : X_fd) : TT Tryz.prog RR_fd :=
 (.call con_f14 (x.fst, x.snd) fun (y1 : R_f14) =>
 (.ite (!(AX y1 0))
 (.ret (false, x.snd))
 (.call con_f17 (x.fst.Thread, x.snd) fun (y2 : R_f17) =>
 (.ite (AX x.fst.Kind 5)
 (.call con_f15 (y2, x.snd) fun (y3 : R_f15) =>
 (.ite y3
 (.need (Az x.fst.Ring x.snd.rings.n) <|
 (.need (((Nat.beq x.snd.rings.n x.snd.rings.n) && true) && (!(x.snd.rings.get ((0 : Nat) + (Int.toNat x.fst.Ring))).nil)) <|
 (.call con_f1c (x.snd.rings.get ((0 : Nat) + (Int.toNat x.fst.Ring))).x fun (y4 : R_f1c) =>
 (.need ((true && true) && (((Nat.beq x.snd.rings.n x.snd.rings.n) && (Nat.blt ((0 : Nat) + (Int.toNat x.fst.Ring)) x.snd.rings.n)) && (!(x.snd.rings.get ((0 : Nat) + (Int.toNat x.fst.Ring))).nil))) <|
 (.side (((fun v : Nat → V => v = v) (fun i5 => (cond (Nat.beq i5 ((0 : Nat) + (Int.toNat x.fst.Ring))) (V.ptr (Id.loc 30 0) List.nil) (V.Ai (x.snd.rings.get i5).nil (V.cons (V.cons (V.int IntKind.u64 (x.snd.rings.get i5).x.AA.tail) (V.cons (V.A1 41 1 (x.snd.rings.get i5).x.AA.AD.nil (x.snd.rings.get i5).x.AA.AD.n (fun i6 => (V.int IntKind.u64 ((x.snd.rings.get i5).x.AA.AD.get i6)))) V.unit)) (V.cons (V.Ai (x.snd.rings.get i5).x.s.nil (V.cons (V.A1 206 3 (x.snd.rings.get i5).x.s.x.l.nil (x.snd.rings.get i5).x.s.x.l.n (fun i6 => (V.cons (V.int IntKind.u64 ((x.snd.rings.get i5).x.s.x.l.get i6).AO) (V.cons (V.int IntKind.u64 ((x.snd.rings.get i5).x.s.x.l.get i6).Value) (V.cons (V.int IntKind.i64 ((x.snd.rings.get i5).x.s.x.l.get i6).Left) V.unit))))) (V.cons (V.int IntKind.i64 (x.snd.rings.get i5).x.s.x.AV) V.unit))) (V.cons (V.int IntKind.u64 (x.snd.rings.get i5).x.most) (V.cons (V.bool (x.snd.rings.get i5).x.closed) V.unit)))))))) ∧ (((fun v : V => v = v) (V.cons (V.cons (V.int IntKind.u64 (x.snd.rings.get ((0 : Nat) + (Int.toNat x.fst.Ring))).x.AA.tail) (V.cons (V.A1 41 1 (x.snd.rings.get ((0 : Nat) + (Int.toNat x.fst.Ring))).x.AA.AD.nil (x.snd.rings.get ((0 : Nat) + (Int.toNat x.fst.Ring))).x.AA.AD.n (fun i5 => (V.int IntKind.u64 ((x.snd.rings.get ((0 : Nat) + (Int.toNat x.fst.Ring))).x.AA.AD.get i5)))) V.unit)) (V.cons (V.Ai (x.snd.rings.get ((0 : Nat) + (Int.toNat x.fst.Ring))).x.s.nil (V.cons (V.A1 206 3 (x.snd.rings.get ((0 : Nat) + (Int.toNat x.fst.Ring))).x.s.x.l.nil (x.snd.rings.get ((0 : Nat) + (Int.toNat x.fst.Ring))).x.s.x.l.n (fun i5 => (V.cons (V.int IntKind.u64 ((x.snd.rings.get ((0 : Nat) + (Int.toNat x.fst.Ring))).x.s.x.l.get i5).AO) (V.cons (V.int IntKind.u64 ((x.snd.rings.get ((0 : Nat) + (Int.toNat x.fst.Ring))).x.s.x.l.get i5).Value) (V.cons (V.int IntKind.i64 ((x.snd.rings.get ((0 : Nat) + (Int.toNat x.fst.Ring))).x.s.x.l.get i5).Left) V.unit))))) (V.cons (V.int IntKind.i64 (x.snd.rings.get ((0 : Nat) + (Int.toNat x.fst.Ring))).x.s.x.AV) V.unit))) (V.cons (V.int IntKind.u64 (x.snd.rings.get ((0 : Nat) + (Int.toNat x.fst.Ring))).x.most) (V.cons (V.bool (x.snd.rings.get ((0 : Nat) + (Int.toNat x.fst.Ring))).x.closed) V.unit))))) ∧ ((fun v : V => v = v) (V.Ai (x.snd.rings.get ((0 : Nat) + (Int.toNat x.fst.Ring))).nil (V.cons (V.cons (V.int IntKind.u64 (x.snd.rings.get ((0 : Nat) + (Int.toNat x.fst.Ring))).x.AA.tail) (V.cons (V.A1 41 1 (x.snd.rings.get ((0 : Nat) + (Int.toNat x.fst.Ring))).x.AA.AD.nil (x.snd.rings.get ((0 : Nat) + (Int.toNat x.fst.Ring))).x.AA.AD.n (fun i5 => (V.int IntKind.u64 ((x.snd.rings.get ((0 : Nat) + (Int.toNat x.fst.Ring))).x.AA.AD.get i5)))) V.unit)) (V.cons (V.Ai (x.snd.rings.get ((0 : Nat) + (Int.toNat x.fst.Ring))).x.s.nil (V.cons (V.A1 206 3 (x.snd.rings.get ((0 : Nat) + (Int.toNat x.fst.Ring))).x.s.x.l.nil (x.snd.rings.get ((0 : Nat) + (Int.toNat x.fst.Ring))).x.s.x.l.n (fun i5 => (V.cons (V.int IntKind.u64 ((x.snd.rings.get ((0 : Nat) + (Int.toNat x.fst.Ring))).x.s.x.l.get i5).AO) (V.cons (V.int IntKind.u64 ((x.snd.rings.get ((0 : Nat) + (Int.toNat x.fst.Ring))).x.s.x.l.get i5).Value) (V.cons (V.int IntKind.i64 ((x.snd.rings.get ((0 : Nat) + (Int.toNat x.fst.Ring))).x.s.x.l.get i5).Left) V.unit))))) (V.cons (V.int IntKind.i64 (x.snd.rings.get ((0 : Nat) + (Int.toNat x.fst.Ring))).x.s.x.AV) V.unit))) (V.cons (V.int IntKind.u64 (x.snd.rings.get ((0 : Nat) + (Int.toNat x.fst.Ring))).x.most) (V.cons (V.bool (x.snd.rings.get ((0 : Nat) + (Int.toNat x.fst.Ring))).x.closed) V.unit)))))))) <|
 (.need ((true && true) && (Nat.beq x.snd.rings.n x.snd.rings.n)) <|
 (.ret ((!y4), x.snd))))))))
 (.ret (false, x.snd))))
 (.ite (AX x.fst.Kind 7)
 (.call con_f15 (y2, x.snd) fun (y3 : R_f15) =>
 (.ite y3
 (.need (Az x.fst.Ring x.snd.rings.n) <|
 (.need (((Nat.beq x.snd.rings.n x.snd.rings.n) && true) && (!(x.snd.rings.get ((0 : Nat) + (Int.toNat x.fst.Ring))).nil)) <|
 (.call con_f1c (x.snd.rings.get ((0 : Nat) + (Int.toNat x.fst.Ring))).x fun (y4 : R_f1c) =>
 (.need ((true && true) && (((Nat.beq x.snd.rings.n x.snd.rings.n) && (Nat.blt ((0 : Nat) + (Int.toNat x.fst.Ring)) x.snd.rings.n)) && (!(x.snd.rings.get ((0 : Nat) + (Int.toNat x.fst.Ring))).nil))) <|
 (.side (((fun v : Nat → V => v = v) (fun i5 => (cond (Nat.beq i5 ((0 : Nat) + (Int.toNat x.fst.Ring))) (V.ptr (Id.loc 30 0) List.nil) (V.Ai (x.snd.rings.get i5).nil (V.cons (V.cons (V.int IntKind.u64 (x.snd.rings.get i5).x.AA.tail) (V.cons (V.A1 41 1 (x.snd.rings.get i5).x.AA.AD.nil (x.snd.rings.get i5).x.AA.AD.n (fun i6 => (V.int IntKind.u64 ((x.snd.rings.get i5).x.AA.AD.get i6)))) V.unit)) (V.cons (V.Ai (x.snd.rings.get i5).x.s.nil (V.cons (V.A1 206 3 (x.snd.rings.get i5).x.s.x.l.nil (x.snd.rings.get i5).x.s.x.l.n (fun i6 => (V.cons (V.int IntKind.u64 ((x.snd.rings.get i5).x.s.x.l.get i6).AO) (V.cons (V.int IntKind.u64 ((x.snd.rings.get i5).x.s.x.l.get i6).Value) (V.cons (V.int IntKind.i64 ((x.snd.rings.get i5).x.s.x.l.get i6).Left) V.unit))))) (V.cons (V.int IntKind.i64 (x.snd.rings.get i5).x.s.x.AV) V.unit))) (V.cons (V.int IntKind.u64 (x.snd.rings.get i5).x.most) (V.cons (V.bool (x.snd.rings.get i5).x.closed) V.unit)))))))) ∧ (((fun v : V => v = v) (V.cons (V.cons (V.int IntKind.u64 (x.snd.rings.get ((0 : Nat) + (Int.toNat x.fst.Ring))).x.AA.tail) (V.cons (V.A1 41 1 (x.snd.rings.get ((0 : Nat) + (Int.toNat x.fst.Ring))).x.AA.AD.nil (x.snd.rings.get ((0 : Nat) + (Int.toNat x.fst.Ring))).x.AA.AD.n (fun i5 => (V.int IntKind.u64 ((x.snd.rings.get ((0 : Nat) + (Int.toNat x.fst.Ring))).x.AA.AD.get i5)))) V.unit)) (V.cons (V.Ai (x.snd.rings.get ((0 : Nat) + (Int.toNat x.fst.Ring))).x.s.nil (V.cons (V.A1 206 3 (x.snd.rings.get ((0 : Nat) + (Int.toNat x.fst.Ring))).x.s.x.l.nil (x.snd.rings.get ((0 : Nat) + (Int.toNat x.fst.Ring))).x.s.x.l.n (fun i5 => (V.cons (V.int IntKind.u64 ((x.snd.rings.get ((0 : Nat) + (Int.toNat x.fst.Ring))).x.s.x.l.get i5).AO) (V.cons (V.int IntKind.u64 ((x.snd.rings.get ((0 : Nat) + (Int.toNat x.fst.Ring))).x.s.x.l.get i5).Value) (V.cons (V.int IntKind.i64 ((x.snd.rings.get ((0 : Nat) + (Int.toNat x.fst.Ring))).x.s.x.l.get i5).Left) V.unit))))) (V.cons (V.int IntKind.i64 (x.snd.rings.get ((0 : Nat) + (Int.toNat x.fst.Ring))).x.s.x.AV) V.unit))) (V.cons (V.int IntKind.u64 (x.snd.rings.get ((0 : Nat) + (Int.toNat x.fst.Ring))).x.most) (V.cons (V.bool (x.snd.rings.get ((0 : Nat) + (Int.toNat x.fst.Ring))).x.closed) V.unit))))) ∧ ((fun v : V => v = v) (V.Ai (x.snd.rings.get ((0 : Nat) + (Int.toNat x.fst.Ring))).nil (V.cons (V.cons (V.int IntKind.u64 (x.snd.rings.get ((0 : Nat) + (Int.toNat x.fst.Ring))).x.AA.tail) (V.cons (V.A1 41 1 (x.snd.rings.get ((0 : Nat) + (Int.toNat x.fst.Ring))).x.AA.AD.nil (x.snd.rings.get ((0 : Nat) + (Int.toNat x.fst.Ring))).x.AA.AD.n (fun i5 => (V.int IntKind.u64 ((x.snd.rings.get ((0 : Nat) + (Int.toNat x.fst.Ring))).x.AA.AD.get i5)))) V.unit)) (V.cons (V.Ai (x.snd.rings.get ((0 : Nat) + (Int.toNat x.fst.Ring))).x.s.nil (V.cons (V.A1 206 3 (x.snd.rings.get ((0 : Nat) + (Int.toNat x.fst.Ring))).x.s.x.l.nil (x.snd.rings.get ((0 : Nat) + (Int.toNat x.fst.Ring))).x.s.x.l.n (fun i5 => (V.cons (V.int IntKind.u64 ((x.snd.rings.get ((0 : Nat) + (Int.toNat x.fst.Ring))).x.s.x.l.get i5).AO) (V.cons (V.int IntKind.u64 ((x.snd.rings.get ((0 : Nat) + (Int.toNat x.fst.Ring))).x.s.x.l.get i5).Value) (V.cons (V.int IntKind.i64 ((x.snd.rings.get ((0 : Nat) + (Int.toNat x.fst.Ring))).x.s.x.l.get i5).Left) V.unit))))) (V.cons (V.int IntKind.i64 (x.snd.rings.get ((0 : Nat) + (Int.toNat x.fst.Ring))).x.s.x.AV) V.unit))) (V.cons (V.int IntKind.u64 (x.snd.rings.get ((0 : Nat) + (Int.toNat x.fst.Ring))).x.most) (V.cons (V.bool (x.snd.rings.get ((0 : Nat) + (Int.toNat x.fst.Ring))).x.closed) V.unit)))))))) <|
 (.need ((true && true) && (Nat.beq x.snd.rings.n x.snd.rings.n)) <|
 (.ret ((!y4), x.snd))))))))
 (.ret (false, x.snd))))
 (.ite (AX x.fst.Kind 6)
 (.call con_f15 (y2, x.snd) fun (y3 : R_f15) =>
 (.ite y3
 (.need (Az x.fst.Ring x.snd.rings.n) <|
 (.need (((Nat.beq x.snd.rings.n x.snd.rings.n) && true) && (!(x.snd.rings.get ((0 : Nat) + (Int.toNat x.fst.Ring))).nil)) <|
 (.call con_f1c (x.snd.rings.get ((0 : Nat) + (Int.toNat x.fst.Ring))).x fun (y4 : R_f1c) =>
 (.need ((true && true) && (((Nat.beq x.snd.rings.n x.snd.rings.n) && (Nat.blt ((0 : Nat) + (Int.toNat x.fst.Ring)) x.snd.rings.n)) && (!(x.snd.rings.get ((0 : Nat) + (Int.toNat x.fst.Ring))).nil))) <|
 (.side (((fun v : Nat → V => v = v) (fun i5 => (cond (Nat.beq i5 ((0 : Nat) + (Int.toNat x.fst.Ring))) (V.ptr (Id.loc 47 0) List.nil) (V.Ai (x.snd.rings.get i5).nil (V.cons (V.cons (V.int IntKind.u64 (x.snd.rings.get i5).x.AA.tail) (V.cons (V.A1 41 1 (x.snd.rings.get i5).x.AA.AD.nil (x.snd.rings.get i5).x.AA.AD.n (fun i6 => (V.int IntKind.u64 ((x.snd.rings.get i5).x.AA.AD.get i6)))) V.unit)) (V.cons (V.Ai (x.snd.rings.get i5).x.s.nil (V.cons (V.A1 206 3 (x.snd.rings.get i5).x.s.x.l.nil (x.snd.rings.get i5).x.s.x.l.n (fun i6 => (V.cons (V.int IntKind.u64 ((x.snd.rings.get i5).x.s.x.l.get i6).AO) (V.cons (V.int IntKind.u64 ((x.snd.rings.get i5).x.s.x.l.get i6).Value) (V.cons (V.int IntKind.i64 ((x.snd.rings.get i5).x.s.x.l.get i6).Left) V.unit))))) (V.cons (V.int IntKind.i64 (x.snd.rings.get i5).x.s.x.AV) V.unit))) (V.cons (V.int IntKind.u64 (x.snd.rings.get i5).x.most) (V.cons (V.bool (x.snd.rings.get i5).x.closed) V.unit)))))))) ∧ (((fun v : V => v = v) (V.cons (V.cons (V.int IntKind.u64 (x.snd.rings.get ((0 : Nat) + (Int.toNat x.fst.Ring))).x.AA.tail) (V.cons (V.A1 41 1 (x.snd.rings.get ((0 : Nat) + (Int.toNat x.fst.Ring))).x.AA.AD.nil (x.snd.rings.get ((0 : Nat) + (Int.toNat x.fst.Ring))).x.AA.AD.n (fun i5 => (V.int IntKind.u64 ((x.snd.rings.get ((0 : Nat) + (Int.toNat x.fst.Ring))).x.AA.AD.get i5)))) V.unit)) (V.cons (V.Ai (x.snd.rings.get ((0 : Nat) + (Int.toNat x.fst.Ring))).x.s.nil (V.cons (V.A1 206 3 (x.snd.rings.get ((0 : Nat) + (Int.toNat x.fst.Ring))).x.s.x.l.nil (x.snd.rings.get ((0 : Nat) + (Int.toNat x.fst.Ring))).x.s.x.l.n (fun i5 => (V.cons (V.int IntKind.u64 ((x.snd.rings.get ((0 : Nat) + (Int.toNat x.fst.Ring))).x.s.x.l.get i5).AO) (V.cons (V.int IntKind.u64 ((x.snd.rings.get ((0 : Nat) + (Int.toNat x.fst.Ring))).x.s.x.l.get i5).Value) (V.cons (V.int IntKind.i64 ((x.snd.rings.get ((0 : Nat) + (Int.toNat x.fst.Ring))).x.s.x.l.get i5).Left) V.unit))))) (V.cons (V.int IntKind.i64 (x.snd.rings.get ((0 : Nat) + (Int.toNat x.fst.Ring))).x.s.x.AV) V.unit))) (V.cons (V.int IntKind.u64 (x.snd.rings.get ((0 : Nat) + (Int.toNat x.fst.Ring))).x.most) (V.cons (V.bool (x.snd.rings.get ((0 : Nat) + (Int.toNat x.fst.Ring))).x.closed) V.unit))))) ∧ ((fun v : V => v = v) (V.Ai (x.snd.rings.get ((0 : Nat) + (Int.toNat x.fst.Ring))).nil (V.cons (V.cons (V.int IntKind.u64 (x.snd.rings.get ((0 : Nat) + (Int.toNat x.fst.Ring))).x.AA.tail) (V.cons (V.A1 41 1 (x.snd.rings.get ((0 : Nat) + (Int.toNat x.fst.Ring))).x.AA.AD.nil (x.snd.rings.get ((0 : Nat) + (Int.toNat x.fst.Ring))).x.AA.AD.n (fun i5 => (V.int IntKind.u64 ((x.snd.rings.get ((0 : Nat) + (Int.toNat x.fst.Ring))).x.AA.AD.get i5)))) V.unit)) (V.cons (V.Ai (x.snd.rings.get ((0 : Nat) + (Int.toNat x.fst.Ring))).x.s.nil (V.cons (V.A1 206 3 (x.snd.rings.get ((0 : Nat) + (Int.toNat x.fst.Ring))).x.s.x.l.nil (x.snd.rings.get ((0 : Nat) + (Int.toNat x.fst.Ring))).x.s.x.l.n (fun i5 => (V.cons (V.int IntKind.u64 ((x.snd.rings.get ((0 : Nat) + (Int.toNat x.fst.Ring))).x.s.x.l.get i5).AO) (V.cons (V.int IntKind.u64 ((x.snd.rings.get ((0 : Nat) + (Int.toNat x.fst.Ring))).x.s.x.l.get i5).Value) (V.cons (V.int IntKind.i64 ((x.snd.rings.get ((0 : Nat) + (Int.toNat x.fst.Ring))).x.s.x.l.get i5).Left) V.unit))))) (V.cons (V.int IntKind.i64 (x.snd.rings.get ((0 : Nat) + (Int.toNat x.fst.Ring))).x.s.x.AV) V.unit))) (V.cons (V.int IntKind.u64 (x.snd.rings.get ((0 : Nat) + (Int.toNat x.fst.Ring))).x.most) (V.cons (V.bool (x.snd.rings.get ((0 : Nat) + (Int.toNat x.fst.Ring))).x.closed) V.unit)))))))) <|
 (.need ((true && true) && (Nat.beq x.snd.rings.n x.snd.rings.n)) <|
 (.ret (y4, x.snd))))))))
 (.ret (false, x.snd))))
 (.ite (AX x.fst.Kind 8)
 (.ite (BW x.snd.now x.fst.Value)
 (.ret ((BR (IntKind.u64.wrap (x.fst.Value - x.snd.now)) 1048576), x.snd))
 (.ret (false, x.snd)))
 (.ite (AX x.fst.Kind 10)
 (.ret ((!x.snd.ended), x.snd))
 (.ite (AX x.fst.Kind 1)
 (.call con_f1b (x.fst, (y2, x.snd)) fun (y3 : R_f1b) =>
 (.ite y3
 (.need (Az x.fst.Ring x.snd.rings.n) <|
 (.need (((Nat.beq x.snd.rings.n x.snd.rings.n) && true) && (!(x.snd.rings.get ((0 : Nat) + (Int.toNat x.fst.Ring))).nil)) <|
 (.call con_f1c (x.snd.rings.get ((0 : Nat) + (Int.toNat x.fst.Ring))).x fun (y4 : R_f1c) =>
 (.need ((true && true) && (((Nat.beq x.snd.rings.n x.snd.rings.n) && (Nat.blt ((0 : Nat) + (Int.toNat x.fst.Ring)) x.snd.rings.n)) && (!(x.snd.rings.get ((0 : Nat) + (Int.toNat x.fst.Ring))).nil))) <|
 (.side (((fun v : Nat → V => v = v) (fun i5 => (cond (Nat.beq i5 ((0 : Nat) + (Int.toNat x.fst.Ring))) (V.ptr (Id.loc 90 0) List.nil) (V.Ai (x.snd.rings.get i5).nil (V.cons (V.cons (V.int IntKind.u64 (x.snd.rings.get i5).x.AA.tail) (V.cons (V.A1 41 1 (x.snd.rings.get i5).x.AA.AD.nil (x.snd.rings.get i5).x.AA.AD.n (fun i6 => (V.int IntKind.u64 ((x.snd.rings.get i5).x.AA.AD.get i6)))) V.unit)) (V.cons (V.Ai (x.snd.rings.get i5).x.s.nil (V.cons (V.A1 206 3 (x.snd.rings.get i5).x.s.x.l.nil (x.snd.rings.get i5).x.s.x.l.n (fun i6 => (V.cons (V.int IntKind.u64 ((x.snd.rings.get i5).x.s.x.l.get i6).AO) (V.cons (V.int IntKind.u64 ((x.snd.rings.get i5).x.s.x.l.get i6).Value) (V.cons (V.int IntKind.i64 ((x.snd.rings.get i5).x.s.x.l.get i6).Left) V.unit))))) (V.cons (V.int IntKind.i64 (x.snd.rings.get i5).x.s.x.AV) V.unit))) (V.cons (V.int IntKind.u64 (x.snd.rings.get i5).x.most) (V.cons (V.bool (x.snd.rings.get i5).x.closed) V.unit)))))))) ∧ (((fun v : V => v = v) (V.cons (V.cons (V.int IntKind.u64 (x.snd.rings.get ((0 : Nat) + (Int.toNat x.fst.Ring))).x.AA.tail) (V.cons (V.A1 41 1 (x.snd.rings.get ((0 : Nat) + (Int.toNat x.fst.Ring))).x.AA.AD.nil (x.snd.rings.get ((0 : Nat) + (Int.toNat x.fst.Ring))).x.AA.AD.n (fun i5 => (V.int IntKind.u64 ((x.snd.rings.get ((0 : Nat) + (Int.toNat x.fst.Ring))).x.AA.AD.get i5)))) V.unit)) (V.cons (V.Ai (x.snd.rings.get ((0 : Nat) + (Int.toNat x.fst.Ring))).x.s.nil (V.cons (V.A1 206 3 (x.snd.rings.get ((0 : Nat) + (Int.toNat x.fst.Ring))).x.s.x.l.nil (x.snd.rings.get ((0 : Nat) + (Int.toNat x.fst.Ring))).x.s.x.l.n (fun i5 => (V.cons (V.int IntKind.u64 ((x.snd.rings.get ((0 : Nat) + (Int.toNat x.fst.Ring))).x.s.x.l.get i5).AO) (V.cons (V.int IntKind.u64 ((x.snd.rings.get ((0 : Nat) + (Int.toNat x.fst.Ring))).x.s.x.l.get i5).Value) (V.cons (V.int IntKind.i64 ((x.snd.rings.get ((0 : Nat) + (Int.toNat x.fst.Ring))).x.s.x.l.get i5).Left) V.unit))))) (V.cons (V.int IntKind.i64 (x.snd.rings.get ((0 : Nat) + (Int.toNat x.fst.Ring))).x.s.x.AV) V.unit))) (V.cons (V.int IntKind.u64 (x.snd.rings.get ((0 : Nat) + (Int.toNat x.fst.Ring))).x.most) (V.cons (V.bool (x.snd.rings.get ((0 : Nat) + (Int.toNat x.fst.Ring))).x.closed) V.unit))))) ∧ ((fun v : V => v = v) (V.Ai (x.snd.rings.get ((0 : Nat) + (Int.toNat x.fst.Ring))).nil (V.cons (V.cons (V.int IntKind.u64 (x.snd.rings.get ((0 : Nat) + (Int.toNat x.fst.Ring))).x.AA.tail) (V.cons (V.A1 41 1 (x.snd.rings.get ((0 : Nat) + (Int.toNat x.fst.Ring))).x.AA.AD.nil (x.snd.rings.get ((0 : Nat) + (Int.toNat x.fst.Ring))).x.AA.AD.n (fun i5 => (V.int IntKind.u64 ((x.snd.rings.get ((0 : Nat) + (Int.toNat x.fst.Ring))).x.AA.AD.get i5)))) V.unit)) (V.cons (V.Ai (x.snd.rings.get ((0 : Nat) + (Int.toNat x.fst.Ring))).x.s.nil (V.cons (V.A1 206 3 (x.snd.rings.get ((0 : Nat) + (Int.toNat x.fst.Ring))).x.s.x.l.nil (x.snd.rings.get ((0 : Nat) + (Int.toNat x.fst.Ring))).x.s.x.l.n (fun i5 => (V.cons (V.int IntKind.u64 ((x.snd.rings.get ((0 : Nat) + (Int.toNat x.fst.Ring))).x.s.x.l.get i5).AO) (V.cons (V.int IntKind.u64 ((x.snd.rings.get ((0 : Nat) + (Int.toNat x.fst.Ring))).x.s.x.l.get i5).Value) (V.cons (V.int IntKind.i64 ((x.snd.rings.get ((0 : Nat) + (Int.toNat x.fst.Ring))).x.s.x.l.get i5).Left) V.unit))))) (V.cons (V.int IntKind.i64 (x.snd.rings.get ((0 : Nat) + (Int.toNat x.fst.Ring))).x.s.x.AV) V.unit))) (V.cons (V.int IntKind.u64 (x.snd.rings.get ((0 : Nat) + (Int.toNat x.fst.Ring))).x.most) (V.cons (V.bool (x.snd.rings.get ((0 : Nat) + (Int.toNat x.fst.Ring))).x.closed) V.unit)))))))) <|
 (.need ((true && true) && (Nat.beq x.snd.rings.n x.snd.rings.n)) <|
 (.ret ((!y4), x.snd))))))))
 (.ret (false, x.snd))))
 (.jump S_fd_16 D_fd_16 (X_fd_16.mk x.fst x.snd y2)))))))))))
theorem sd_fd (x : X_fd) : (tt_fd x).AH :=
 (TT.sC fun _ => (TT.sI TT.sR (TT.sC fun _ => (TT.sI (TT.sC fun _ => (TT.sI (TT.sN (TT.sN (TT.sC fun _ => (TT.sN (TT.sS ⟨rfl, ⟨rfl, rfl⟩⟩ (TT.sN TT.sR)))))) TT.sR)) (TT.sI (TT.sC fun _ => (TT.sI (TT.sN (TT.sN (TT.sC fun _ => (TT.sN (TT.sS ⟨rfl, ⟨rfl, rfl⟩⟩ (TT.sN TT.sR)))))) TT.sR)) (TT.sI (TT.sC fun _ => (TT.sI (TT.sN (TT.sN (TT.sC fun _ => (TT.sN (TT.sS ⟨rfl, ⟨rfl, rfl⟩⟩ (TT.sN TT.sR)))))) TT.sR)) (TT.sI (TT.sI TT.sR TT.sR) (TT.sI TT.sR (TT.sI (TT.sC fun _ => (TT.sI (TT.sN (TT.sN (TT.sC fun _ => (TT.sN (TT.sS ⟨rfl, ⟨rfl, rfl⟩⟩ (TT.sN TT.sR)))))) TT.sR)) TT.sJ)))))))))
theorem roT_fd (x : X_fd) : TT.Ro p_fd (w_fd x) (tt_fd x) :=
 (TT.rC fun _ => (TT.rI (TT.rR rfl) (TT.rC fun _ => (TT.rI (TT.rC fun _ => (TT.rI (TT.rN (TT.rN (TT.rC fun _ => (TT.rN (TT.rS (TT.rN (TT.rR rfl))))))) (TT.rR rfl))) (TT.rI (TT.rC fun _ => (TT.rI (TT.rN (TT.rN (TT.rC fun _ => (TT.rN (TT.rS (TT.rN (TT.rR rfl))))))) (TT.rR rfl))) (TT.rI (TT.rC fun _ => (TT.rI (TT.rN (TT.rN (TT.rC fun _ => (TT.rN (TT.rS (TT.rN (TT.rR rfl))))))) (TT.rR rfl))) (TT.rI (TT.rI (TT.rR rfl) (TT.rR rfl)) (TT.rI (TT.rR rfl) (TT.rI (TT.rC fun _ => (TT.rI (TT.rN (TT.rN (TT.rC fun _ => (TT.rN (TT.rS (TT.rN (TT.rR rfl))))))) (TT.rR rfl))) (TT.rJ (ro_fd_16 _)))))))))))
def D_fd : AU X_fd R_fd := .ro (.of tt_fd) (fun y => (y.1)) (fun y x => (y, x.2)) fun x y h => congrArg (fun o => (y.1, o)) (roT_fd x y h)
def con_fd : A3 Tryz.prog :=
 C7 29 J_fd S_fd (.of tt_fd) D_fd (fun y x => (y, x.2)) (fun y => V.bool y) 2 1 [.any, .any] (lk mxk (lbc ok_fd_16 rfl lbn) sd_fd) (fun x => ⟨(nu_e_TFa : ∀ y, (e_TFa y).CU) (x.2), trivial⟩)
abbrev X_f30 : Type := TRr
abbrev R_f30 : Type := Int × Int × TRr
def J_f30 : A8 Tryz.prog :=
 BD Tryz.prog Tryz.f143 30 [] [] [] [] [.any, .any] [sh_TRr] [con_f1o] R_f30 [] fun y => [V.B9 (V.cons ((V.int .u64) y.1) (V.cons ((V.int .i64) y.2.1) (V.unit))), e_TRr y.2.2]
def S_f30 : AM :=
 Ae Tryz.f143 1 1 X_f30 (fun x => [(V.ptr (.par 0) []), e_TRr x]) fun l => (d_TRr (at_ l 1))
def tt_f30 (x : X_f30) : TT Tryz.prog R_f30 :=
 (.ite x.closed
 (.ret (0, (10, x)))
 (.call con_f1o x fun (y1 : R_f1o) =>
 (.ite y1
 (.ret (0, (8, x)))
 (.ret ((IntKind.u64.wrap ((IntKind.u64.wrap (x.AA.tail + 1)) - 1)), (0, (TRr.mk (TRc.mk (IntKind.u64.wrap (x.AA.tail + 1)) x.AA.AD) x.s x.most x.closed)))))))
theorem sd_f30 (x : X_f30) : (tt_f30 x).AH :=
 (TT.sI TT.sR (TT.sC fun _ => (TT.sI TT.sR TT.sR)))
def D_f30 : AU X_f30 R_f30 := .of tt_f30
def con_f30 : A3 Tryz.prog :=
 BS 143 J_f30 S_f30 D_f30 1 1 [.any] (lk mxk lbn sd_f30)
abbrev X_fw : Type := (Ar TSo)
abbrev R_fw : Type := (Sl TSo)
abbrev RR_fw : Type := (Sl TSo) × (Ar TSo)
abbrev p_fw (y : RR_fw) : (Ar TSo) := y.2
abbrev w_fw (x : X_fw) : (Ar TSo) := x
def J_fw : A8 Tryz.prog :=
 BD Tryz.prog Tryz.f183 8 [(6, 1)] [] [] [.shut 2] [hsl_TSo] [.any] [] RR_fw [] fun y => [esl_TSo y.1, (Jc 3 e_TSo) y.2]
def S_fw : AM :=
 Ae Tryz.f183 1 1 X_fw (fun x => [(V.own (.par 0) [] 3 x.n 0 x.n), (Jc 3 e_TSo) x]) fun l => ((PL d_TSo) (at_ l 1))
def tt_fw (x : X_fw) : TT Tryz.prog RR_fw :=
 (.need (Nat.blt 0 x.n) <|
 (.need ((true && (Nat.beq x.n x.n)) && (room ((0 : Nat) + x.n) 24)) <|
 (.side (∀ i1 : Nat, ((i1 < x.n) → ((true && (true && (true && true))) = true))) <|
 (.ret ((Sl.mk (cond (Nat.beq x.n 0) false false) ((0 : Nat) + x.n) (fun i1 => (TSo.mk (cond (Nat.blt i1 0) (0 : Int) (x.get ((0 : Nat) + (i1 - 0))).AO) (cond (Nat.blt i1 0) (0 : Int) (x.get ((0 : Nat) + (i1 - 0))).Value) (cond (Nat.blt i1 0) (0 : Int) (x.get ((0 : Nat) + (i1 - 0))).Left)))), x)))))
theorem sd_fw (x : X_fw) : (tt_fw x).AH :=
 (TT.sN (TT.sN (TT.sS (fun _ _ => rfl) TT.sR)))
theorem roT_fw (x : X_fw) : TT.Ro p_fw (w_fw x) (tt_fw x) :=
 (TT.rN (TT.rN (TT.rS (TT.rR rfl))))
def D_fw : AU X_fw R_fw := .ro (.of tt_fw) (fun y => (y.1)) (fun y x => (y, x)) fun x y h => congrArg (fun o => (y.1, o)) (roT_fw x y h)
def con_fw : A3 Tryz.prog :=
 C7 183 J_fw S_fw (.of tt_fw) D_fw (fun y x => (y, x)) (fun y => esl_TSo y) 1 1 [.any] (lk mxk lbn sd_fw) (fun x => ⟨(fun _ _ => (nu_e_TSo) _ : ∀ y, ((Jc 3 e_TSo) y).CU) (x), trivial⟩)
abbrev X_f23 : Type := TSs
abbrev R_f23 : Type := (Sl TSo)
abbrev RR_f23 : Type := (Sl TSo) × TSs
abbrev p_f23 (y : RR_f23) : TSs := y.2
abbrev w_f23 (x : X_f23) : TSs := x
def J_f23 : A8 Tryz.prog :=
 BD Tryz.prog Tryz.f152 10 [] [] [] [.back (.loc 8 0), .shut 2] [hsl_TSo] [sh_TSs] [con_fw] RR_f23 [] fun y => [esl_TSo y.1, e_TSs y.2]
def S_f23 : AM :=
 Ae Tryz.f152 1 1 X_f23 (fun x => [(V.ptr (.par 0) []), e_TSs x]) fun l => (d_TSs (at_ l 1))
def tt_f23 (x : X_f23) : TT Tryz.prog RR_f23 :=
 (.call con_fw (Ar.mk x.l.n x.l.get) fun (y1 : R_fw) =>
 (.need ((true && true) && (Nat.beq x.l.n x.l.n)) <|
 (.ret (y1, x))))
theorem sd_f23 (x : X_f23) : (tt_f23 x).AH :=
 (TT.sC fun _ => (TT.sN TT.sR))
theorem roT_f23 (x : X_f23) : TT.Ro p_f23 (w_f23 x) (tt_f23 x) :=
 (TT.rC fun _ => (TT.rN (TT.rR rfl)))
def D_f23 : AU X_f23 R_f23 := .ro (.of tt_f23) (fun y => (y.1)) (fun y x => (y, x)) fun x y h => congrArg (fun o => (y.1, o)) (roT_f23 x y h)
def con_f23 : A3 Tryz.prog :=
 C7 152 J_f23 S_f23 (.of tt_f23) D_f23 (fun y x => (y, x)) (fun y => esl_TSo y) 1 1 [.any] (lk mxk lbn sd_f23) (fun x => ⟨(nu_e_TSs : ∀ y, (e_TSs y).CU) (x), trivial⟩)
abbrev X_f12 : Type := (Ar Int)
abbrev R_f12 : Type := (Sl Int)
abbrev RR_f12 : Type := (Sl Int) × (Ar Int)
abbrev p_f12 (y : RR_f12) : (Ar Int) := y.2
abbrev w_f12 (x : X_f12) : (Ar Int) := x
def J_f12 : A8 Tryz.prog :=
 BD Tryz.prog Tryz.f113 8 [(6, 1)] [] [] [.shut 2] [EW] [.any] [] RR_f12 [] fun y => [EC y.1, (Jc 1 (V.int .u64)) y.2]
def S_f12 : AM :=
 Ae Tryz.f113 1 1 X_f12 (fun x => [(V.own (.par 0) [] 1 x.n 0 x.n), (Jc 1 (V.int .u64)) x]) fun l => ((PL dI) (at_ l 1))
def tt_f12 (x : X_f12) : TT Tryz.prog RR_f12 :=
 (.need (Nat.blt 0 x.n) <|
 (.need ((true && (Nat.beq x.n x.n)) && (room ((0 : Nat) + x.n) 8)) <|
 (.side (∀ i1 : Nat, ((i1 < x.n) → (true = true))) <|
 (.ret ((Sl.mk (cond (Nat.beq x.n 0) false false) ((0 : Nat) + x.n) (fun i1 => (cond (Nat.blt i1 0) (0 : Int) (x.get ((0 : Nat) + (i1 - 0)))))), x)))))
theorem sd_f12 (x : X_f12) : (tt_f12 x).AH :=
 (TT.sN (TT.sN (TT.sS (fun _ _ => rfl) TT.sR)))
theorem roT_f12 (x : X_f12) : TT.Ro p_f12 (w_f12 x) (tt_f12 x) :=
 (TT.rN (TT.rN (TT.rS (TT.rR rfl))))
def D_f12 : AU X_f12 R_f12 := .ro (.of tt_f12) (fun y => (y.1)) (fun y x => (y, x)) fun x y h => congrArg (fun o => (y.1, o)) (roT_f12 x y h)
def con_f12 : A3 Tryz.prog :=
 C7 113 J_f12 S_f12 (.of tt_f12) D_f12 (fun y x => (y, x)) (fun y => EC y) 1 1 [.any] (lk mxk lbn sd_f12) (fun x => ⟨(fun _ _ => trivial : ∀ y, ((Jc 1 (V.int .u64)) y).CU) (x), trivial⟩)
structure TRs where
 Au : Int
 AY : (Sl Int)
 Aw : Bool
 Am : (Sl TSo)
def d_TRs (v : V) : TRs :=
 ⟨dI (fd v 0), E5 (fd v 1), dB (fd v 2), dsl_TSo (fd v 3)⟩
def e_TRs (x : TRs) : V :=
 V.cons ((V.int .u64) x.Au) (V.cons (EC x.AY) (V.cons (V.bool x.Aw) (V.cons (esl_TSo x.Am) (V.unit))))
theorem nu_e_TRs (x : TRs) : (e_TRs x).CU := ⟨trivial, trivial, trivial, trivial, trivial⟩
def sh_TRs : Sh := (.cons .any (.cons EW (.cons .any (.cons hsl_TSo .any))))
abbrev X_f1s : Type := TRr
abbrev R_f1s : Type := TRs
abbrev RR_f1s : Type := TRs × TRr
abbrev p_f1s (y : RR_f1s) : TRr := y.2
abbrev w_f1s (x : X_f1s) : TRr := x
def J_f1s : A8 Tryz.prog :=
 BD Tryz.prog Tryz.f114 27 [] [] [(3, [.IQ (.par 0) [.CC 0 0, .CC 1 1] 15, .IQ (.par 0) [.CC 1 2] 24])] [.back (.loc 24 0), .back (.loc 15 0)] [sh_TRs] [sh_TRr] [con_f12, con_f23] RR_f1s [(0, [⟨.loc 15 0, .par 0, [.CC 0 0, .CC 1 1], none, none⟩, ⟨.loc 24 0, .par 0, [.CC 1 2], none, none⟩])] fun y => [e_TRs y.1, e_TRr y.2]
def S_f1s : AM :=
 Ae Tryz.f114 1 1 X_f1s (fun x => [(V.ptr (.par 0) []), e_TRr x]) fun l => (d_TRr (at_ l 1))
def tt_f1s (x : X_f1s) : TT Tryz.prog RR_f1s :=
 (.need ((true && true) && (!x.s.nil)) <|
 (.call con_f12 (Ar.mk x.AA.AD.n x.AA.AD.get) fun (y1 : R_f12) =>
 (.call con_f23 x.s.x fun (y2 : R_f23) =>
 (.need ((true && true) && (!x.s.nil)) <|
 (.side ((fun v : V => v = v) (V.cons (V.A1 206 3 x.s.x.l.nil x.s.x.l.n (fun i3 => (V.cons (V.int IntKind.u64 (x.s.x.l.get i3).AO) (V.cons (V.int IntKind.u64 (x.s.x.l.get i3).Value) (V.cons (V.int IntKind.i64 (x.s.x.l.get i3).Left) V.unit))))) (V.cons (V.int IntKind.i64 x.s.x.AV) V.unit))) <|
 (.need ((true && true) && (Nat.beq x.AA.AD.n x.AA.AD.n)) <|
 (.ret ((TRs.mk x.AA.tail y1 x.closed y2), x))))))))
theorem sd_f1s (x : X_f1s) : (tt_f1s x).AH :=
 (TT.sN (TT.sC fun _ => (TT.sC fun _ => (TT.sN (TT.sS rfl (TT.sN TT.sR))))))
theorem roT_f1s (x : X_f1s) : TT.Ro p_f1s (w_f1s x) (tt_f1s x) :=
 (TT.rN (TT.rC fun _ => (TT.rC fun _ => (TT.rN (TT.rS (TT.rN (TT.rR rfl)))))))
def D_f1s : AU X_f1s R_f1s := .ro (.of tt_f1s) (fun y => (y.1)) (fun y x => (y, x)) fun x y h => congrArg (fun o => (y.1, o)) (roT_f1s x y h)
def con_f1s : A3 Tryz.prog :=
 C7 114 J_f1s S_f1s (.of tt_f1s) D_f1s (fun y x => (y, x)) (fun y => e_TRs y) 1 1 [.any] (lk mxk lbn sd_f1s) (fun x => ⟨(nu_e_TRr : ∀ y, (e_TRr y).CU) (x), trivial⟩)
abbrev X_f21 : Type := Int × Int × Int × TSo
abbrev R_f21 : Type := Bool
def J_f21 : A8 Tryz.prog :=
 BD Tryz.prog Tryz.f189 45 [(7, 3)] [] [] [] [.any] [] [] R_f21 [] fun y => [V.bool y]
def S_f21 : AM :=
 Ae Tryz.f189 4 0 X_f21 (fun x => [(V.int .i64) x.1, (V.int .i64) x.2.1, (V.int .i64) x.2.2.1, e_TSo x.2.2.2]) fun l => (dI (at_ l 0), dI (at_ l 1), dI (at_ l 2), d_TSo (at_ l 3))
structure X_f21_3 where
 II : Int
 T5 : TSo
def S_f21_3 : AM :=
 Ad Tryz.f189 3 (an [2, 7]) [] [] X_f21_3 (fun x => [(V.int .i64) x.II, (C2 e_TSo) x.T5]) fun l => ⟨dI (at_ l 0), (C3 d_TSo) (at_ l 1)⟩
def tt_f21_3 (x : X_f21_3) : TT Tryz.prog R_f21 :=
 (.ite (AX (Int.tmod x.T5.AO 2) 0)
 (.ite (AX x.T5.Value 0)
 (.ret (AX x.T5.Left 0))
 (.ret false))
 (.ite (BW 1 x.T5.Left)
 (.need (BW 0 x.II) <|
 (.ret (BR x.T5.Left (shl IntKind.i64 1 x.II))))
 (.ret false)))
theorem sd_f21_3 (x : X_f21_3) : (tt_f21_3 x).AH :=
 (TT.sI (TT.sI TT.sR TT.sR) (TT.sI (TT.sN TT.sR) TT.sR))
def D_f21_3 : AU X_f21_3 R_f21 := .of tt_f21_3
theorem ok_f21_3 : AW J_f21 S_f21_3 D_f21_3 :=
 lk mxk lbn sd_f21_3
def tt_f21 (x : X_f21) : TT Tryz.prog R_f21 :=
 (.ite (BW 9223372036854775808 x.snd.snd.snd.AO)
 (.ret false)
 (.need (!(AX (IntKind.u64.wrap x.snd.fst) 0)) <|
 (.ite (!(AX (Int.tmod (IntKind.u64.wrap (Int.tdiv x.snd.snd.snd.AO 2)) (IntKind.u64.wrap x.snd.fst)) (IntKind.u64.wrap x.fst)))
 (.ret false)
 (.jump S_f21_3 D_f21_3 (X_f21_3.mk x.snd.snd.fst x.snd.snd.snd)))))
theorem sd_f21 (x : X_f21) : (tt_f21 x).AH :=
 (TT.sI TT.sR (TT.sN (TT.sI TT.sR TT.sJ)))
def D_f21 : AU X_f21 R_f21 := .of tt_f21
def con_f21 : A3 Tryz.prog :=
 BS 189 J_f21 S_f21 D_f21 4 0 [.any, .any, .any, .any] (lk mxk (lbc ok_f21_3 rfl lbn) sd_f21)
abbrev X_f1k : Type := (Sl TSo)
abbrev R_f1k : Type := (Sl TSo)
def J_f1k : A8 Tryz.prog :=
 BD Tryz.prog Tryz.f183 8 [(5, 1), (6, 1)] [] [] [.shut 2] [hosl_TSo] [] [] R_f1k [] fun y => [eosl_TSo y]
def S_f1k : AM :=
 Ae Tryz.f183 1 0 X_f1k (fun x => [esl_TSo x]) fun l => (dsl_TSo (at_ l 0))
def tt_f1k (x : X_f1k) : TT Tryz.prog R_f1k :=
 (.ite x.nil
 (.ret (Sl.mk true 0 (fun _i1 => (TSo.mk 0 0 0))))
 (.need (true && (room ((0 : Nat) + x.n) 24)) <|
 (.ret (Sl.mk (cond (Nat.beq x.n 0) false false) ((0 : Nat) + x.n) (fun i1 => (TSo.mk (cond (Nat.blt i1 0) (0 : Int) (x.get (i1 - 0)).AO) (cond (Nat.blt i1 0) (0 : Int) (x.get (i1 - 0)).Value) (cond (Nat.blt i1 0) (0 : Int) (x.get (i1 - 0)).Left)))))))
theorem sd_f1k (x : X_f1k) : (tt_f1k x).AH :=
 (TT.sI TT.sR (TT.sN TT.sR))
def D_f1k : AU X_f1k R_f1k := .of tt_f1k
def con_f1k : A3 Tryz.prog :=
 BS 183 J_f1k S_f1k D_f1k 1 0 [hsl_TSo] (lk mxk lbn sd_f1k)
abbrev X_fx : Type := Int × Int × (Sl TSo)
abbrev R_fx : Type := (Bx TSs) × Int
def J_fx : A8 Tryz.prog :=
 BD Tryz.prog Tryz.f161 37 [(32, 1)] [] [] [.shut 6] [hbox_TSs, .any] [] [con_f1k, con_f3t, con_f21] R_fx [] fun y => [V.B9 (V.cons (ebox_TSs y.1) (V.cons ((V.int .i64) y.2) (V.unit)))]
def S_fx : AM :=
 Ae Tryz.f161 3 0 X_fx (fun x => [(V.int .i64) x.1, (V.int .i64) x.2.1, esl_TSo x.2.2]) fun l => (dI (at_ l 0), dI (at_ l 1), dsl_TSo (at_ l 2))
structure X_fx_6 where
 EF : Int
 Dz : Int
 T7 : (Sl TSo)
 SY : (Sl TSo)
 Tg : Int
 Pt : Int
def S_fx_6 : AM :=
 Ad Tryz.f161 6 [(0, .any), (1, .any), (2, hsl_TSo), (18, hsl_TSo), (19, .any), (20, .any)] [] [] X_fx_6 (fun x => [(V.int .i64) x.EF, (V.int .i64) x.Dz, esl_TSo x.T7, esl_TSo x.SY, (V.int .i64) x.Tg, (V.int .i64) x.Pt]) fun l => ⟨dI (at_ l 0), dI (at_ l 1), dsl_TSo (at_ l 2), dsl_TSo (at_ l 3), dI (at_ l 4), dI (at_ l 5)⟩
structure X_fx_11 where
 Dz : Int
 T7 : (Sl TSo)
def S_fx_11 : AM :=
 Ad Tryz.f161 11 [(1, .any), (2, hsl_TSo)] [] [] X_fx_11 (fun x => [(V.int .i64) x.Dz, esl_TSo x.T7]) fun l => ⟨dI (at_ l 0), dsl_TSo (at_ l 1)⟩
def tt_fx_11 (x : X_fx_11) : TT Tryz.prog R_fx :=
 (.call con_f1k x.T7 fun (y1 : R_f1k) =>
 (.ret ((Bx.mk false (TSs.mk y1 x.Dz)), 0)))
theorem sd_fx_11 (x : X_fx_11) : (tt_fx_11 x).AH :=
 (TT.sC fun _ => TT.sR)
def D_fx_11 : AU X_fx_11 R_fx := .of tt_fx_11
theorem ok_fx_11 : AW J_fx S_fx_11 D_fx_11 :=
 lk mxk lbn sd_fx_11
def tt_fx_6 (D_fx_6 : AU X_fx_6 R_fx) (x : X_fx_6) : TT Tryz.prog R_fx :=
 (.ite (BR x.Pt x.Tg)
 (.need (Az x.Pt x.SY.n) <|
 (.call con_f21 (x.Pt, (x.EF, (x.Dz, (x.SY.get (Int.toNat x.Pt))))) fun (y2 : R_f21) =>
 (.ite (!y2)
 (.ret ((Bx.mk true (TSs.mk (Sl.mk true 0 (fun _i3 => (TSo.mk 0 0 0))) 0)), 3))
 (.jump S_fx_6 D_fx_6 (X_fx_6.mk x.EF x.Dz x.T7 x.SY x.Tg (IntKind.i64.wrap (x.Pt + 1)))))))
 (.jump S_fx_11 D_fx_11 (X_fx_11.mk x.Dz x.T7)))
theorem sd_fx_6 (D_fx_6 : AU X_fx_6 R_fx) (x : X_fx_6) : (tt_fx_6 D_fx_6 x).AH :=
 (TT.sI (TT.sN (TT.sC fun _ => (TT.sI TT.sR TT.sJ))) TT.sJ)
def D_fx_6 : AU X_fx_6 R_fx := AU.loop tt_fx_6
theorem ok_fx_6 : AW J_fx S_fx_6 D_fx_6 :=
 A2 fun D_fx_6 h_6 => lk mxk (lbc h_6 rfl (lbc ok_fx_11 rfl lbn)) (sd_fx_6 D_fx_6)
def tt_fx (x : X_fx) : TT Tryz.prog R_fx :=
 (.call con_f3t (x.fst, x.snd.fst) fun (y1 : R_f3t) =>
 (.ite (!y1)
 (.ret ((Bx.mk true (TSs.mk (Sl.mk true 0 (fun _i2 => (TSo.mk 0 0 0))) 0)), 1))
 (.ite (!(AX ((x.snd.snd.n : Nat) : Int) x.fst))
 (.ret ((Bx.mk true (TSs.mk (Sl.mk true 0 (fun _i2 => (TSo.mk 0 0 0))) 0)), 3))
 (.jump S_fx_6 D_fx_6 (X_fx_6.mk x.fst x.snd.fst x.snd.snd x.snd.snd ((x.snd.snd.n : Nat) : Int) 0)))))
theorem sd_fx (x : X_fx) : (tt_fx x).AH :=
 (TT.sC fun _ => (TT.sI TT.sR (TT.sI TT.sR TT.sJ)))
def D_fx : AU X_fx R_fx := .of tt_fx
def con_fx : A3 Tryz.prog :=
 BS 161 J_fx S_fx D_fx 3 0 [.any, .any, hsl_TSo] (lk mxk (lbc ok_fx_11 rfl (lbc ok_fx_6 rfl lbn)) sd_fx)
abbrev X_f1 : Type := TSo × TRr
abbrev R_f1 : Type := Bool
abbrev RR_f1 : Type := Bool × TRr
abbrev p_f1 (y : RR_f1) : TRr := y.2
abbrev w_f1 (x : X_f1) : TRr := x.2
def J_f1 : A8 Tryz.prog :=
 BD Tryz.prog Tryz.f162 74 [(3, 3)] [(9, [.back (.loc 30 0)]), (11, [.back (.loc 30 0)]), (13, [.back (.loc 30 0)])] [] [.back (.loc 30 0)] [.any] [sh_TRr] [] RR_f1 [(6, [⟨.loc 30 0, .par 0, [.CC 0 0, .CC 1 1], none, none⟩]), (12, [⟨.loc 30 0, .par 0, [.CC 0 0, .CC 1 1], none, none⟩])] fun y => [V.bool y.1, e_TRr y.2]
def S_f1 : AM :=
 Ae Tryz.f162 2 1 X_f1 (fun x => [(V.ptr (.par 0) []), e_TSo x.1, e_TRr x.2]) fun l => (d_TSo (at_ l 1), d_TRr (at_ l 2))
structure X_f1_5 where
 Mj : TSo
 Jo : Int
 CS : Bool
 Ah : TRr
def S_f1_5 : AM :=
 Ad Tryz.f162 5 (an [0, 3, 5, 6]) [sh_TRr] [] X_f1_5 (fun x => [(V.ptr (.par 0) []), (C2 e_TSo) x.Mj, (V.int .u64) x.Jo, V.bool x.CS, e_TRr x.Ah]) fun l => ⟨(C3 d_TSo) (at_ l 1), dI (at_ l 2), dB (at_ l 3), d_TRr (at_ l 4)⟩
structure X_f1_6 where
 Mj : TSo
 Jo : Int
 CS : Bool
 FA : Int
 E9 : Int
 Ah : TRr
def S_f1_6 : AM :=
 Ad Tryz.f162 6 (an [0, 3, 5, 6, 30, 31, 32]) [sh_TRr] [(.loc 30 0, .any)] X_f1_6 (fun x => [(V.ptr (.par 0) []), (C2 e_TSo) x.Mj, (V.int .u64) x.Jo, V.bool x.CS, (V.own (.loc 30 0) [] 1 x.Ah.AA.AD.n 0 x.Ah.AA.AD.n), (V.int .i64) x.FA, (V.int .i64) x.E9, V.cons (V.cons ((V.int .u64) x.Ah.AA.tail) (V.cons (V.Bg (.loc 30 0) 41 1 x.Ah.AA.AD.nil x.Ah.AA.AD.n) (V.unit))) (V.cons (ebox_TSs x.Ah.s) (V.cons ((V.int .u64) x.Ah.most) (V.cons (V.bool x.Ah.closed) (V.unit)))), (V.arr 1 x.Ah.AA.AD.n fun i => (V.int .u64) (x.Ah.AA.AD.get i))]) fun l => ⟨(C3 d_TSo) (at_ l 1), dI (at_ l 2), dB (at_ l 3), dI (at_ l 5), dI (at_ l 6), { d_TRr (at_ l 7) with AA.AD := ⟨(SH (fd (fd (at_ l 7) 0) 1)).nil, (SH (fd (fd (at_ l 7) 0) 1)).n, (PL dI (at_ l 8)).get⟩ }⟩
structure X_f1_12 where
 Mj : TSo
 Jo : Int
 CS : Bool
 FA : Int
 E9 : Int
 Ah : TRr
def S_f1_12 : AM :=
 Ad Tryz.f162 12 (an [0, 3, 5, 6, 30, 31, 32]) [sh_TRr] [(.loc 30 0, .any)] X_f1_12 (fun x => [(V.ptr (.par 0) []), (C2 e_TSo) x.Mj, (V.int .u64) x.Jo, V.bool x.CS, (V.own (.loc 30 0) [] 1 x.Ah.AA.AD.n 0 x.Ah.AA.AD.n), (V.int .i64) x.FA, (V.int .i64) x.E9, V.cons (V.cons ((V.int .u64) x.Ah.AA.tail) (V.cons (V.Bg (.loc 30 0) 41 1 x.Ah.AA.AD.nil x.Ah.AA.AD.n) (V.unit))) (V.cons (ebox_TSs x.Ah.s) (V.cons ((V.int .u64) x.Ah.most) (V.cons (V.bool x.Ah.closed) (V.unit)))), (V.arr 1 x.Ah.AA.AD.n fun i => (V.int .u64) (x.Ah.AA.AD.get i))]) fun l => ⟨(C3 d_TSo) (at_ l 1), dI (at_ l 2), dB (at_ l 3), dI (at_ l 5), dI (at_ l 6), { d_TRr (at_ l 7) with AA.AD := ⟨(SH (fd (fd (at_ l 7) 0) 1)).nil, (SH (fd (fd (at_ l 7) 0) 1)).n, (PL dI (at_ l 8)).get⟩ }⟩
abbrev w_f1_5 (x : X_f1_5) : TRr := (x.Ah)
abbrev w_f1_6 (x : X_f1_6) : TRr := (x.Ah)
abbrev w_f1_12 (x : X_f1_12) : TRr := (x.Ah)
def tt_f1_12 (D_f1_6 : AU X_f1_6 RR_f1) (x : X_f1_12) : TT Tryz.prog RR_f1 :=
 (.jump S_f1_6 D_f1_6 (X_f1_6.mk x.Mj x.Jo x.CS x.FA (IntKind.i64.wrap (x.E9 + 1)) x.Ah))
theorem sd_f1_12 (D_f1_6 : AU X_f1_6 RR_f1) (x : X_f1_12) : (tt_f1_12 D_f1_6 x).AH :=
 TT.sJ
theorem roT_f1_12 (D_f1_6 : AU X_f1_6 RR_f1) (r6 : ∀ x y, D_f1_6.rel x y → p_f1 y = w_f1_6 x) (x : X_f1_12) : TT.Ro p_f1 (w_f1_12 x) (tt_f1_12 D_f1_6 x) :=
 (TT.rJ (r6 _))
def D_f1_12 (D_f1_6 : AU X_f1_6 RR_f1) : AU X_f1_12 RR_f1 := .of (tt_f1_12 D_f1_6)
theorem ok_f1_12 (D_f1_6 : AU X_f1_6 RR_f1) (h_6 : AW J_f1 S_f1_6 D_f1_6) : AW J_f1 S_f1_12 (D_f1_12 D_f1_6) :=
 lk mxk (lbc h_6 rfl lbn) (sd_f1_12 D_f1_6)
theorem ro_f1_12 (D_f1_6 : AU X_f1_6 RR_f1) (r6 : ∀ x y, D_f1_6.rel x y → p_f1 y = w_f1_6 x) : ∀ x y, (D_f1_12 D_f1_6).rel x y → p_f1 y = w_f1_12 x :=
 roT_f1_12 D_f1_6 r6
def tt_f1_6 (D_f1_6 : AU X_f1_6 RR_f1) (x : X_f1_6) : TT Tryz.prog RR_f1 :=
 (.ite (BR x.E9 x.FA)
 (.need (Az x.E9 x.Ah.AA.AD.n) <|
 (.need ((Nat.beq x.Ah.AA.AD.n x.Ah.AA.AD.n) && true) <|
 (.ite x.CS
 (.need (BW 0 x.E9) <|
 (.ite (AX (Vm.bits .and IntKind.i64 (shr IntKind.i64 x.Mj.Left x.E9) 1) 0)
 (.ite (BW (x.Ah.AA.AD.get ((0 : Nat) + (Int.toNat x.E9))) x.Jo)
 (.need ((true && true) && (Nat.beq x.Ah.AA.AD.n x.Ah.AA.AD.n)) <|
 (.ret (false, x.Ah)))
 (.ite (!x.CS)
 (.ite (BW x.Ah.most x.Jo)
 (.ite (BW (x.Ah.AA.AD.get ((0 : Nat) + (Int.toNat x.E9))) (IntKind.u64.wrap (x.Jo - x.Ah.most)))
 (.need ((true && true) && (Nat.beq x.Ah.AA.AD.n x.Ah.AA.AD.n)) <|
 (.ret (false, x.Ah)))
 (.jump S_f1_12 (D_f1_12 D_f1_6) (X_f1_12.mk x.Mj x.Jo x.CS x.FA x.E9 x.Ah)))
 (.jump S_f1_12 (D_f1_12 D_f1_6) (X_f1_12.mk x.Mj x.Jo x.CS x.FA x.E9 x.Ah)))
 (.jump S_f1_12 (D_f1_12 D_f1_6) (X_f1_12.mk x.Mj x.Jo x.CS x.FA x.E9 x.Ah))))
 (.ite (!x.CS)
 (.ite (BW x.Ah.most x.Jo)
 (.ite (BW (x.Ah.AA.AD.get ((0 : Nat) + (Int.toNat x.E9))) (IntKind.u64.wrap (x.Jo - x.Ah.most)))
 (.need ((true && true) && (Nat.beq x.Ah.AA.AD.n x.Ah.AA.AD.n)) <|
 (.ret (false, x.Ah)))
 (.jump S_f1_12 (D_f1_12 D_f1_6) (X_f1_12.mk x.Mj x.Jo x.CS x.FA x.E9 x.Ah)))
 (.jump S_f1_12 (D_f1_12 D_f1_6) (X_f1_12.mk x.Mj x.Jo x.CS x.FA x.E9 x.Ah)))
 (.jump S_f1_12 (D_f1_12 D_f1_6) (X_f1_12.mk x.Mj x.Jo x.CS x.FA x.E9 x.Ah)))))
 (.ite (!x.CS)
 (.ite (BW x.Ah.most x.Jo)
 (.ite (BW (x.Ah.AA.AD.get ((0 : Nat) + (Int.toNat x.E9))) (IntKind.u64.wrap (x.Jo - x.Ah.most)))
 (.need ((true && true) && (Nat.beq x.Ah.AA.AD.n x.Ah.AA.AD.n)) <|
 (.ret (false, x.Ah)))
 (.jump S_f1_12 (D_f1_12 D_f1_6) (X_f1_12.mk x.Mj x.Jo x.CS x.FA x.E9 x.Ah)))
 (.jump S_f1_12 (D_f1_12 D_f1_6) (X_f1_12.mk x.Mj x.Jo x.CS x.FA x.E9 x.Ah)))
 (.jump S_f1_12 (D_f1_12 D_f1_6) (X_f1_12.mk x.Mj x.Jo x.CS x.FA x.E9 x.Ah))))))
 (.need ((true && true) && (Nat.beq x.Ah.AA.AD.n x.Ah.AA.AD.n)) <|
 (.ret (true, x.Ah))))
theorem sd_f1_6 (D_f1_6 : AU X_f1_6 RR_f1) (x : X_f1_6) : (tt_f1_6 D_f1_6 x).AH :=
 (TT.sI (TT.sN (TT.sN (TT.sI (TT.sN (TT.sI (TT.sI (TT.sN TT.sR) (TT.sI (TT.sI (TT.sI (TT.sN TT.sR) TT.sJ) TT.sJ) TT.sJ)) (TT.sI (TT.sI (TT.sI (TT.sN TT.sR) TT.sJ) TT.sJ) TT.sJ))) (TT.sI (TT.sI (TT.sI (TT.sN TT.sR) TT.sJ) TT.sJ) TT.sJ)))) (TT.sN TT.sR))
theorem roT_f1_6 (D_f1_6 : AU X_f1_6 RR_f1) (r6 : ∀ x y, D_f1_6.rel x y → p_f1 y = w_f1_6 x) (x : X_f1_6) : TT.Ro p_f1 (w_f1_6 x) (tt_f1_6 D_f1_6 x) :=
 (TT.rI (TT.rN (TT.rN (TT.rI (TT.rN (TT.rI (TT.rI (TT.rN (TT.rR rfl)) (TT.rI (TT.rI (TT.rI (TT.rN (TT.rR rfl)) (TT.rJ (ro_f1_12 D_f1_6 r6 _))) (TT.rJ (ro_f1_12 D_f1_6 r6 _))) (TT.rJ (ro_f1_12 D_f1_6 r6 _)))) (TT.rI (TT.rI (TT.rI (TT.rN (TT.rR rfl)) (TT.rJ (ro_f1_12 D_f1_6 r6 _))) (TT.rJ (ro_f1_12 D_f1_6 r6 _))) (TT.rJ (ro_f1_12 D_f1_6 r6 _))))) (TT.rI (TT.rI (TT.rI (TT.rN (TT.rR rfl)) (TT.rJ (ro_f1_12 D_f1_6 r6 _))) (TT.rJ (ro_f1_12 D_f1_6 r6 _))) (TT.rJ (ro_f1_12 D_f1_6 r6 _)))))) (TT.rN (TT.rR rfl)))
def D_f1_6 : AU X_f1_6 RR_f1 := AU.loop tt_f1_6
theorem ok_f1_6 : AW J_f1 S_f1_6 D_f1_6 :=
 A2 fun D_f1_6 h_6 => lk mxk (lbc h_6 rfl (lbc (ok_f1_12 D_f1_6 h_6) rfl lbn)) (sd_f1_6 D_f1_6)
theorem ro_f1_6 : ∀ x y, D_f1_6.rel x y → p_f1 y = w_f1_6 x :=
 JY fun D_f1_6 r6 => roT_f1_6 D_f1_6 r6
def tt_f1_5 (x : X_f1_5) : TT Tryz.prog RR_f1 :=
 (.jump S_f1_6 D_f1_6 (X_f1_6.mk x.Mj x.Jo x.CS ((x.Ah.AA.AD.n : Nat) : Int) 0 x.Ah))
theorem sd_f1_5 (x : X_f1_5) : (tt_f1_5 x).AH :=
 TT.sJ
theorem roT_f1_5 (x : X_f1_5) : TT.Ro p_f1 (w_f1_5 x) (tt_f1_5 x) :=
 (TT.rJ (ro_f1_6 _))
def D_f1_5 : AU X_f1_5 RR_f1 := .of tt_f1_5
theorem ok_f1_5 : AW J_f1 S_f1_5 D_f1_5 :=
 lk mxk (lbc ok_f1_6 rfl lbn) sd_f1_5
theorem ro_f1_5 : ∀ x y, D_f1_5.rel x y → p_f1 y = w_f1_5 x :=
 roT_f1_5 
def tt_f1 (x : X_f1) : TT Tryz.prog RR_f1 :=
 (.ite (AX (Int.tmod x.fst.AO 2) 1)
 (.ite (BW x.snd.AA.tail (IntKind.u64.wrap (Int.tdiv x.fst.AO 2)))
 (.ret (false, x.snd))
 (.jump S_f1_5 D_f1_5 (X_f1_5.mk x.fst (IntKind.u64.wrap (Int.tdiv x.fst.AO 2)) (AX (Int.tmod x.fst.AO 2) 1) x.snd)))
 (.jump S_f1_5 D_f1_5 (X_f1_5.mk x.fst (IntKind.u64.wrap (Int.tdiv x.fst.AO 2)) (AX (Int.tmod x.fst.AO 2) 1) x.snd)))
theorem sd_f1 (x : X_f1) : (tt_f1 x).AH :=
 (TT.sI (TT.sI TT.sR TT.sJ) TT.sJ)
theorem roT_f1 (x : X_f1) : TT.Ro p_f1 (w_f1 x) (tt_f1 x) :=
 (TT.rI (TT.rI (TT.rR rfl) (TT.rJ (ro_f1_5 _))) (TT.rJ (ro_f1_5 _)))
def D_f1 : AU X_f1 R_f1 := .ro (.of tt_f1) (fun y => (y.1)) (fun y x => (y, x.2)) fun x y h => congrArg (fun o => (y.1, o)) (roT_f1 x y h)
def con_f1 : A3 Tryz.prog :=
 C7 162 J_f1 S_f1 (.of tt_f1) D_f1 (fun y x => (y, x.2)) (fun y => V.bool y) 2 1 [.any, .any] (lk mxk (lbc ok_f1_6 rfl (lbc ok_f1_5 rfl lbn)) sd_f1) (fun x => ⟨(nu_e_TRr : ∀ y, (e_TRr y).CU) (x.2), trivial⟩)
abbrev X_f1z : Type := (Sl Int)
abbrev R_f1z : Type := (Sl Int)
def J_f1z : A8 Tryz.prog :=
 BD Tryz.prog Tryz.f113 8 [(5, 1), (6, 1)] [] [] [.shut 2] [NS] [] [] R_f1z [] fun y => [KU y]
def S_f1z : AM :=
 Ae Tryz.f113 1 0 X_f1z (fun x => [EC x]) fun l => (E5 (at_ l 0))
def tt_f1z (x : X_f1z) : TT Tryz.prog R_f1z :=
 (.ite x.nil
 (.ret (Sl.mk true 0 (fun _i1 => (0 : Int))))
 (.need (true && (room ((0 : Nat) + x.n) 8)) <|
 (.ret (Sl.mk (cond (Nat.beq x.n 0) false false) ((0 : Nat) + x.n) (fun i1 => (cond (Nat.blt i1 0) (0 : Int) (x.get (i1 - 0))))))))
theorem sd_f1z (x : X_f1z) : (tt_f1z x).AH :=
 (TT.sI TT.sR (TT.sN TT.sR))
def D_f1z : AU X_f1z R_f1z := .of tt_f1z
def con_f1z : A3 Tryz.prog :=
 BS 113 J_f1z S_f1z D_f1z 1 0 [EW] (lk mxk lbn sd_f1z)
abbrev X_fb : Type := TRg × TRs
abbrev R_fb : Type := (Bx TRr) × Int
def J_fb : A8 Tryz.prog :=
 BD Tryz.prog Tryz.f129 113 [(2, 3), (3, 3), (13, 1), (21, 1), (57, 1), (112, 1)] [(7, [.open_ 6]), (12, [.close (.loc 72 0)]), (14, [.close (.loc 72 0)]), (15, [.close (.loc 72 0)]), (16, [.close (.loc 72 0)]), (17, [.close (.loc 72 0)]), (18, [.close (.loc 72 0)]), (19, [.close (.loc 72 0)]), (20, [.close (.loc 72 0)])] [] [.close (.loc 72 0), .shut 4] [hbox_TRr, .any] [] [con_f2s, con_f1, con_f1z, con_fx] R_fb [(9, [⟨.loc 72 0, .loc 6 1, [.CC 0 0, .CC 1 1], none, none⟩]), (13, [⟨.loc 72 0, .loc 6 1, [.CC 0 0, .CC 1 1], none, none⟩])] fun y => [V.B9 (V.cons (ebox_TRr y.1) (V.cons ((V.int .i64) y.2) (V.unit)))]
def S_fb : AM :=
 Ae Tryz.f129 2 0 X_fb (fun x => [e_TRg x.1, e_TRs x.2]) fun l => (d_TRg (at_ l 0), d_TRs (at_ l 1))
structure X_fb_7 where
 Dh : TRs
 l_8 : (Bx TSs)
 C1 : TRr
def S_fb_7 : AM :=
 Ad Tryz.f129 7 [(3, .any), (6, .any), (8, hbox_TSs)] [] [(.loc 6 1, sh_TRr)] X_fb_7 (fun x => [(C2 e_TRs) x.Dh, (V.ptr (.loc 6 1) []), ebox_TSs x.l_8, e_TRr x.C1]) fun l => ⟨(C3 d_TRs) (at_ l 0), dbox_TSs (at_ l 2), d_TRr (at_ l 3)⟩
structure X_fb_9 where
 Dh : TRs
 Pr : Int
 Ly : Int
 C1 : TRr
def S_fb_9 : AM :=
 Ad Tryz.f129 9 (an [3, 6, 72, 73, 74]) [] [(.loc 6 1, sh_TRr), (.loc 72 0, .any)] X_fb_9 (fun x => [(C2 e_TRs) x.Dh, (V.ptr (.loc 6 1) []), (V.own (.loc 72 0) [] 1 x.C1.AA.AD.n 0 x.C1.AA.AD.n), (V.int .i64) x.Pr, (V.int .i64) x.Ly, V.cons (V.cons ((V.int .u64) x.C1.AA.tail) (V.cons (V.Bg (.loc 72 0) 41 1 x.C1.AA.AD.nil x.C1.AA.AD.n) (V.unit))) (V.cons (ebox_TSs x.C1.s) (V.cons ((V.int .u64) x.C1.most) (V.cons (V.bool x.C1.closed) (V.unit)))), (V.arr 1 x.C1.AA.AD.n fun i => (V.int .u64) (x.C1.AA.AD.get i))]) fun l => ⟨(C3 d_TRs) (at_ l 0), dI (at_ l 3), dI (at_ l 4), { d_TRr (at_ l 5) with AA.AD := ⟨(SH (fd (fd (at_ l 5) 0) 1)).nil, (SH (fd (fd (at_ l 5) 0) 1)).n, (PL dI (at_ l 6)).get⟩ }⟩
structure X_fb_13 where
 Dh : TRs
 Pr : Int
 Ly : Int
 C1 : TRr
def S_fb_13 : AM :=
 Ad Tryz.f129 13 (an [3, 6, 72, 73, 74]) [] [(.loc 6 1, sh_TRr), (.loc 72 0, .any)] X_fb_13 (fun x => [(C2 e_TRs) x.Dh, (V.ptr (.loc 6 1) []), (V.own (.loc 72 0) [] 1 x.C1.AA.AD.n 0 x.C1.AA.AD.n), (V.int .i64) x.Pr, (V.int .i64) x.Ly, V.cons (V.cons ((V.int .u64) x.C1.AA.tail) (V.cons (V.Bg (.loc 72 0) 41 1 x.C1.AA.AD.nil x.C1.AA.AD.n) (V.unit))) (V.cons (ebox_TSs x.C1.s) (V.cons ((V.int .u64) x.C1.most) (V.cons (V.bool x.C1.closed) (V.unit)))), (V.arr 1 x.C1.AA.AD.n fun i => (V.int .u64) (x.C1.AA.AD.get i))]) fun l => ⟨(C3 d_TRs) (at_ l 0), dI (at_ l 3), dI (at_ l 4), { d_TRr (at_ l 5) with AA.AD := ⟨(SH (fd (fd (at_ l 5) 0) 1)).nil, (SH (fd (fd (at_ l 5) 0) 1)).n, (PL dI (at_ l 6)).get⟩ }⟩
structure X_fb_14 where
 Dh : TRs
 C1 : TRr
def S_fb_14 : AM :=
 Ad Tryz.f129 14 (an [3, 6]) [] [(.loc 6 1, sh_TRr)] X_fb_14 (fun x => [(C2 e_TRs) x.Dh, (V.ptr (.loc 6 1) []), e_TRr x.C1]) fun l => ⟨(C3 d_TRs) (at_ l 0), d_TRr (at_ l 2)⟩
structure X_fb_15 where
 O7 : (Sl TSo)
 RA : Int
 M7 : Int
 C1 : TRr
def S_fb_15 : AM :=
 Ad Tryz.f129 15 [(6, .any), (101, hsl_TSo), (102, .any), (103, .any)] [] [(.loc 6 1, sh_TRr)] X_fb_15 (fun x => [(V.ptr (.loc 6 1) []), esl_TSo x.O7, (V.int .i64) x.RA, (V.int .i64) x.M7, e_TRr x.C1]) fun l => ⟨dsl_TSo (at_ l 1), dI (at_ l 2), dI (at_ l 3), d_TRr (at_ l 4)⟩
def tt_fb_15 (D_fb_15 : AU X_fb_15 R_fb) (x : X_fb_15) : TT Tryz.prog R_fb :=
 (.ite (BR x.M7 x.RA)
 (.need (Az x.M7 x.O7.n) <|
 (.call con_f1 ((x.O7.get (Int.toNat x.M7)), x.C1) fun (y2 : R_f1) =>
 (.ite (!y2)
 (.ret ((Bx.mk true (TRr.mk (TRc.mk 0 (Sl.mk true 0 (fun _i3 => (0 : Int)))) (Bx.mk true (TSs.mk (Sl.mk true 0 (fun _i3 => (TSo.mk 0 0 0))) 0)) 0 false)), 3))
 (.jump S_fb_15 D_fb_15 (X_fb_15.mk x.O7 x.RA (IntKind.i64.wrap (x.M7 + 1)) x.C1)))))
 (.ret ((Bx.mk false x.C1), 0)))
theorem sd_fb_15 (D_fb_15 : AU X_fb_15 R_fb) (x : X_fb_15) : (tt_fb_15 D_fb_15 x).AH :=
 (TT.sI (TT.sN (TT.sC fun _ => (TT.sI TT.sR TT.sJ))) TT.sR)
def D_fb_15 : AU X_fb_15 R_fb := AU.loop tt_fb_15
theorem ok_fb_15 : AW J_fb S_fb_15 D_fb_15 :=
 A2 fun D_fb_15 h_15 => lk mxk (lbc h_15 rfl lbn) (sd_fb_15 D_fb_15)
def tt_fb_14 (x : X_fb_14) : TT Tryz.prog R_fb :=
 (.jump S_fb_15 D_fb_15 (X_fb_15.mk x.Dh.Am ((x.Dh.Am.n : Nat) : Int) 0 x.C1))
theorem sd_fb_14 (x : X_fb_14) : (tt_fb_14 x).AH :=
 TT.sJ
def D_fb_14 : AU X_fb_14 R_fb := .of tt_fb_14
theorem ok_fb_14 : AW J_fb S_fb_14 D_fb_14 :=
 lk mxk (lbc ok_fb_15 rfl lbn) sd_fb_14
def tt_fb_13 (D_fb_9 : AU X_fb_9 R_fb) (x : X_fb_13) : TT Tryz.prog R_fb :=
 (.jump S_fb_9 D_fb_9 (X_fb_9.mk x.Dh x.Pr (IntKind.i64.wrap (x.Ly + 1)) x.C1))
theorem sd_fb_13 (D_fb_9 : AU X_fb_9 R_fb) (x : X_fb_13) : (tt_fb_13 D_fb_9 x).AH :=
 TT.sJ
def D_fb_13 (D_fb_9 : AU X_fb_9 R_fb) : AU X_fb_13 R_fb := .of (tt_fb_13 D_fb_9)
theorem ok_fb_13 (D_fb_9 : AU X_fb_9 R_fb) (h_9 : AW J_fb S_fb_9 D_fb_9) : AW J_fb S_fb_13 (D_fb_13 D_fb_9) :=
 lk mxk (lbc h_9 rfl (lbc ok_fb_15 rfl (lbc ok_fb_14 rfl lbn))) (sd_fb_13 D_fb_9)
def tt_fb_9 (D_fb_9 : AU X_fb_9 R_fb) (x : X_fb_9) : TT Tryz.prog R_fb :=
 (.ite (BR x.Ly x.Pr)
 (.need (Az x.Ly x.C1.AA.AD.n) <|
 (.need ((Nat.beq x.C1.AA.AD.n x.C1.AA.AD.n) && true) <|
 (.ite (BR x.C1.AA.tail (x.C1.AA.AD.get ((0 : Nat) + (Int.toNat x.Ly))))
 (.need ((true && true) && (Nat.beq x.C1.AA.AD.n x.C1.AA.AD.n)) <|
 (.ret ((Bx.mk true (TRr.mk (TRc.mk 0 (Sl.mk true 0 (fun _i2 => (0 : Int)))) (Bx.mk true (TSs.mk (Sl.mk true 0 (fun _i2 => (TSo.mk 0 0 0))) 0)) 0 false)), 3)))
 (.ite (BR x.C1.most (IntKind.u64.wrap (x.C1.AA.tail - (x.C1.AA.AD.get ((0 : Nat) + (Int.toNat x.Ly))))))
 (.need ((true && true) && (Nat.beq x.C1.AA.AD.n x.C1.AA.AD.n)) <|
 (.ret ((Bx.mk true (TRr.mk (TRc.mk 0 (Sl.mk true 0 (fun _i2 => (0 : Int)))) (Bx.mk true (TSs.mk (Sl.mk true 0 (fun _i2 => (TSo.mk 0 0 0))) 0)) 0 false)), 3)))
 (.jump S_fb_13 (D_fb_13 D_fb_9) (X_fb_13.mk x.Dh x.Pr x.Ly x.C1))))))
 (.need ((true && true) && (Nat.beq x.C1.AA.AD.n x.C1.AA.AD.n)) <|
 (.jump S_fb_14 D_fb_14 (X_fb_14.mk x.Dh x.C1))))
theorem sd_fb_9 (D_fb_9 : AU X_fb_9 R_fb) (x : X_fb_9) : (tt_fb_9 D_fb_9 x).AH :=
 (TT.sI (TT.sN (TT.sN (TT.sI (TT.sN TT.sR) (TT.sI (TT.sN TT.sR) TT.sJ)))) (TT.sN TT.sJ))
def D_fb_9 : AU X_fb_9 R_fb := AU.loop tt_fb_9
theorem ok_fb_9 : AW J_fb S_fb_9 D_fb_9 :=
 A2 fun D_fb_9 h_9 => lk mxk (lbc h_9 rfl (lbc ok_fb_15 rfl (lbc ok_fb_14 rfl (lbc (ok_fb_13 D_fb_9 h_9) rfl lbn)))) (sd_fb_9 D_fb_9)
def tt_fb_7 (x : X_fb_7) : TT Tryz.prog R_fb :=
 (.call con_f1z x.Dh.AY fun (y1 : R_f1z) =>
 (.jump S_fb_9 D_fb_9 (X_fb_9.mk x.Dh ((y1.n : Nat) : Int) 0 (TRr.mk (TRc.mk x.Dh.Au y1) x.l_8 x.C1.most x.Dh.Aw))))
theorem sd_fb_7 (x : X_fb_7) : (tt_fb_7 x).AH :=
 (TT.sC fun _ => TT.sJ)
def D_fb_7 : AU X_fb_7 R_fb := .of tt_fb_7
theorem ok_fb_7 : AW J_fb S_fb_7 D_fb_7 :=
 lk mxk (lbc ok_fb_15 rfl (lbc ok_fb_14 rfl (lbc ok_fb_9 rfl lbn))) sd_fb_7
def tt_fb (x : X_fb) : TT Tryz.prog R_fb :=
 (.call con_f2s x.fst fun (y1 : R_f2s) =>
 (.ite (!(AX y1.snd 0))
 (.ret ((Bx.mk true (TRr.mk (TRc.mk 0 (Sl.mk true 0 (fun _i2 => (0 : Int)))) (Bx.mk true (TSs.mk (Sl.mk true 0 (fun _i2 => (TSo.mk 0 0 0))) 0)) 0 false)), y1.snd))
 (.call con_fx (x.fst.Cf, (x.fst.AQ, x.snd.Am)) fun (y2 : R_fx) =>
 (.ite (!(AX y2.snd 0))
 (.ret ((Bx.mk true (TRr.mk (TRc.mk 0 (Sl.mk true 0 (fun _i3 => (0 : Int)))) (Bx.mk true (TSs.mk (Sl.mk true 0 (fun _i3 => (TSo.mk 0 0 0))) 0)) 0 false)), 3))
 (.ite (!(AX ((x.snd.AY.n : Nat) : Int) x.fst.AQ))
 (.ret ((Bx.mk true (TRr.mk (TRc.mk 0 (Sl.mk true 0 (fun _i3 => (0 : Int)))) (Bx.mk true (TSs.mk (Sl.mk true 0 (fun _i3 => (TSo.mk 0 0 0))) 0)) 0 false)), 3))
 (.ite (BW 4611686018427387904 x.snd.Au)
 (.ret ((Bx.mk true (TRr.mk (TRc.mk 0 (Sl.mk true 0 (fun _i3 => (0 : Int)))) (Bx.mk true (TSs.mk (Sl.mk true 0 (fun _i3 => (TSo.mk 0 0 0))) 0)) 0 false)), 3))
 (.need (!y1.fst.nil) <|
 (.jump S_fb_7 D_fb_7 (X_fb_7.mk x.snd y2.fst y1.fst.x)))))))))
theorem sd_fb (x : X_fb) : (tt_fb x).AH :=
 (TT.sC fun _ => (TT.sI TT.sR (TT.sC fun _ => (TT.sI TT.sR (TT.sI TT.sR (TT.sI TT.sR (TT.sN TT.sJ)))))))
def D_fb : AU X_fb R_fb := .of tt_fb
def con_fb : A3 Tryz.prog :=
 BS 129 J_fb S_fb D_fb 2 0 [.any, sh_TRs] (lk mxk (lbc ok_fb_15 rfl (lbc ok_fb_14 rfl (lbc ok_fb_9 rfl (lbc ok_fb_7 rfl lbn)))) sd_fb)
abbrev X_f2d : Type := Int × TFa
abbrev R_f2d : Type := TFa
def J_f2d : A8 Tryz.prog :=
 BD Tryz.prog Tryz.f99 56 [(9, 1), (34, 1), (54, 1)] [(1, [.close (.loc 16 0), .close (.loc 13 0)]), (2, [.close (.loc 16 0), .close (.loc 13 0)]), (3, [.close (.loc 28 0), .close (.loc 25 0), .close (.loc 16 0), .close (.loc 13 0)]), (4, [.close (.loc 28 0), .close (.loc 25 0), .close (.loc 16 0), .close (.loc 13 0)]), (5, [.close (.loc 28 0), .close (.loc 25 0), .close (.loc 16 0), .close (.loc 13 0)]), (6, [.close (.loc 28 0), .close (.loc 25 0), .close (.loc 16 0), .close (.loc 13 0)])] [] [.close (.loc 52 0), .close (.loc 28 0), .close (.loc 25 0), .close (.loc 16 0), .close (.loc 13 0)] [] [sh_TFa] [con_fb, con_f30, con_f1s] R_f2d [] fun y => [V.B9 (V.unit), e_TFa y]
def S_f2d : AM :=
 Ae Tryz.f99 2 1 X_f2d (fun x => [(V.ptr (.par 0) []), (V.int .i64) x.1, e_TFa x.2]) fun l => (dI (at_ l 1), d_TFa (at_ l 2))
def tt_f2d (x : X_f2d) : TT Tryz.prog R_f2d :=
 (.need (Az x.fst x.snd.rings.n) <|
 (.need (((Nat.beq x.snd.rings.n x.snd.rings.n) && true) && (!(x.snd.rings.get ((0 : Nat) + (Int.toNat x.fst))).nil)) <|
 (.call con_f30 (x.snd.rings.get ((0 : Nat) + (Int.toNat x.fst))).x fun (y1 : R_f30) =>
 (.need ((true && true) && ((Nat.beq x.snd.rings.n x.snd.rings.n) && (Nat.blt ((0 : Nat) + (Int.toNat x.fst)) x.snd.rings.n))) <|
 (.side ((fun v : Nat → V => v = v) (fun i2 => (cond (Nat.beq i2 ((0 : Nat) + (Int.toNat x.fst))) (V.ptr (Id.loc 16 0) List.nil) (V.Ai (x.snd.rings.get i2).nil (V.cons (V.cons (V.int IntKind.u64 (x.snd.rings.get i2).x.AA.tail) (V.cons (V.A1 41 1 (x.snd.rings.get i2).x.AA.AD.nil (x.snd.rings.get i2).x.AA.AD.n (fun i3 => (V.int IntKind.u64 ((x.snd.rings.get i2).x.AA.AD.get i3)))) V.unit)) (V.cons (V.Ai (x.snd.rings.get i2).x.s.nil (V.cons (V.A1 206 3 (x.snd.rings.get i2).x.s.x.l.nil (x.snd.rings.get i2).x.s.x.l.n (fun i3 => (V.cons (V.int IntKind.u64 ((x.snd.rings.get i2).x.s.x.l.get i3).AO) (V.cons (V.int IntKind.u64 ((x.snd.rings.get i2).x.s.x.l.get i3).Value) (V.cons (V.int IntKind.i64 ((x.snd.rings.get i2).x.s.x.l.get i3).Left) V.unit))))) (V.cons (V.int IntKind.i64 (x.snd.rings.get i2).x.s.x.AV) V.unit))) (V.cons (V.int IntKind.u64 (x.snd.rings.get i2).x.most) (V.cons (V.bool (x.snd.rings.get i2).x.closed) V.unit)))))))) <|
 (.need ((true && true) && (Nat.beq x.snd.rings.n x.snd.rings.n)) <|
 (.ite (!(AX y1.snd.fst 10))
 (.ret (TFa.mk x.snd.p x.snd.threads (Sl.mk x.snd.rings.nil x.snd.rings.n (fun i2 => (Bx.mk (cond (Nat.beq i2 ((0 : Nat) + (Int.toNat x.fst))) false (x.snd.rings.get i2).nil) (TRr.mk (TRc.mk (cond (Nat.beq i2 ((0 : Nat) + (Int.toNat x.fst))) y1.snd.snd.AA.tail (x.snd.rings.get i2).x.AA.tail) (Sl.mk (cond (Nat.beq i2 ((0 : Nat) + (Int.toNat x.fst))) y1.snd.snd.AA.AD.nil (x.snd.rings.get i2).x.AA.AD.nil) (cond (Nat.beq i2 ((0 : Nat) + (Int.toNat x.fst))) y1.snd.snd.AA.AD.n (x.snd.rings.get i2).x.AA.AD.n) (fun i3 => (cond (Nat.beq i2 ((0 : Nat) + (Int.toNat x.fst))) (y1.snd.snd.AA.AD.get i3) ((x.snd.rings.get i2).x.AA.AD.get i3))))) (Bx.mk (cond (Nat.beq i2 ((0 : Nat) + (Int.toNat x.fst))) y1.snd.snd.s.nil (x.snd.rings.get i2).x.s.nil) (TSs.mk (Sl.mk (cond (Nat.beq i2 ((0 : Nat) + (Int.toNat x.fst))) y1.snd.snd.s.x.l.nil (x.snd.rings.get i2).x.s.x.l.nil) (cond (Nat.beq i2 ((0 : Nat) + (Int.toNat x.fst))) y1.snd.snd.s.x.l.n (x.snd.rings.get i2).x.s.x.l.n) (fun i3 => (TSo.mk (cond (Nat.beq i2 ((0 : Nat) + (Int.toNat x.fst))) (y1.snd.snd.s.x.l.get i3).AO ((x.snd.rings.get i2).x.s.x.l.get i3).AO) (cond (Nat.beq i2 ((0 : Nat) + (Int.toNat x.fst))) (y1.snd.snd.s.x.l.get i3).Value ((x.snd.rings.get i2).x.s.x.l.get i3).Value) (cond (Nat.beq i2 ((0 : Nat) + (Int.toNat x.fst))) (y1.snd.snd.s.x.l.get i3).Left ((x.snd.rings.get i2).x.s.x.l.get i3).Left)))) (cond (Nat.beq i2 ((0 : Nat) + (Int.toNat x.fst))) y1.snd.snd.s.x.AV (x.snd.rings.get i2).x.s.x.AV))) (cond (Nat.beq i2 ((0 : Nat) + (Int.toNat x.fst))) y1.snd.snd.most (x.snd.rings.get i2).x.most) (cond (Nat.beq i2 ((0 : Nat) + (Int.toNat x.fst))) y1.snd.snd.closed (x.snd.rings.get i2).x.closed))))) x.snd.now x.snd.reads x.snd.ended))
 (.need (Az x.fst x.snd.rings.n) <|
 (.need (((Nat.beq x.snd.rings.n x.snd.rings.n) && true) && (!(cond (Nat.beq ((0 : Nat) + (Int.toNat x.fst)) ((0 : Nat) + (Int.toNat x.fst))) false (x.snd.rings.get ((0 : Nat) + (Int.toNat x.fst))).nil))) <|
 (.call con_f1s (TRr.mk (TRc.mk (cond (Nat.beq ((0 : Nat) + (Int.toNat x.fst)) ((0 : Nat) + (Int.toNat x.fst))) y1.snd.snd.AA.tail (x.snd.rings.get ((0 : Nat) + (Int.toNat x.fst))).x.AA.tail) (Sl.mk (cond (Nat.beq ((0 : Nat) + (Int.toNat x.fst)) ((0 : Nat) + (Int.toNat x.fst))) y1.snd.snd.AA.AD.nil (x.snd.rings.get ((0 : Nat) + (Int.toNat x.fst))).x.AA.AD.nil) (cond (Nat.beq ((0 : Nat) + (Int.toNat x.fst)) ((0 : Nat) + (Int.toNat x.fst))) y1.snd.snd.AA.AD.n (x.snd.rings.get ((0 : Nat) + (Int.toNat x.fst))).x.AA.AD.n) (fun i2 => (cond (Nat.beq ((0 : Nat) + (Int.toNat x.fst)) ((0 : Nat) + (Int.toNat x.fst))) (y1.snd.snd.AA.AD.get i2) ((x.snd.rings.get ((0 : Nat) + (Int.toNat x.fst))).x.AA.AD.get i2))))) (Bx.mk (cond (Nat.beq ((0 : Nat) + (Int.toNat x.fst)) ((0 : Nat) + (Int.toNat x.fst))) y1.snd.snd.s.nil (x.snd.rings.get ((0 : Nat) + (Int.toNat x.fst))).x.s.nil) (TSs.mk (Sl.mk (cond (Nat.beq ((0 : Nat) + (Int.toNat x.fst)) ((0 : Nat) + (Int.toNat x.fst))) y1.snd.snd.s.x.l.nil (x.snd.rings.get ((0 : Nat) + (Int.toNat x.fst))).x.s.x.l.nil) (cond (Nat.beq ((0 : Nat) + (Int.toNat x.fst)) ((0 : Nat) + (Int.toNat x.fst))) y1.snd.snd.s.x.l.n (x.snd.rings.get ((0 : Nat) + (Int.toNat x.fst))).x.s.x.l.n) (fun i2 => (TSo.mk (cond (Nat.beq ((0 : Nat) + (Int.toNat x.fst)) ((0 : Nat) + (Int.toNat x.fst))) (y1.snd.snd.s.x.l.get i2).AO ((x.snd.rings.get ((0 : Nat) + (Int.toNat x.fst))).x.s.x.l.get i2).AO) (cond (Nat.beq ((0 : Nat) + (Int.toNat x.fst)) ((0 : Nat) + (Int.toNat x.fst))) (y1.snd.snd.s.x.l.get i2).Value ((x.snd.rings.get ((0 : Nat) + (Int.toNat x.fst))).x.s.x.l.get i2).Value) (cond (Nat.beq ((0 : Nat) + (Int.toNat x.fst)) ((0 : Nat) + (Int.toNat x.fst))) (y1.snd.snd.s.x.l.get i2).Left ((x.snd.rings.get ((0 : Nat) + (Int.toNat x.fst))).x.s.x.l.get i2).Left)))) (cond (Nat.beq ((0 : Nat) + (Int.toNat x.fst)) ((0 : Nat) + (Int.toNat x.fst))) y1.snd.snd.s.x.AV (x.snd.rings.get ((0 : Nat) + (Int.toNat x.fst))).x.s.x.AV))) (cond (Nat.beq ((0 : Nat) + (Int.toNat x.fst)) ((0 : Nat) + (Int.toNat x.fst))) y1.snd.snd.most (x.snd.rings.get ((0 : Nat) + (Int.toNat x.fst))).x.most) (cond (Nat.beq ((0 : Nat) + (Int.toNat x.fst)) ((0 : Nat) + (Int.toNat x.fst))) y1.snd.snd.closed (x.snd.rings.get ((0 : Nat) + (Int.toNat x.fst))).x.closed)) fun (y2 : R_f1s) =>
 (.need ((true && true) && ((Nat.beq x.snd.rings.n x.snd.rings.n) && (Nat.blt ((0 : Nat) + (Int.toNat x.fst)) x.snd.rings.n))) <|
 (.side ((fun v : Nat → V => v = v) (fun i3 => (cond (Nat.beq i3 ((0 : Nat) + (Int.toNat x.fst))) (V.ptr (Id.loc 28 0) List.nil) (V.Ai (cond (Nat.beq i3 ((0 : Nat) + (Int.toNat x.fst))) false (x.snd.rings.get i3).nil) (V.cons (V.cons (V.int IntKind.u64 (cond (Nat.beq i3 ((0 : Nat) + (Int.toNat x.fst))) y1.snd.snd.AA.tail (x.snd.rings.get i3).x.AA.tail)) (V.cons (V.A1 41 1 (cond (Nat.beq i3 ((0 : Nat) + (Int.toNat x.fst))) y1.snd.snd.AA.AD.nil (x.snd.rings.get i3).x.AA.AD.nil) (cond (Nat.beq i3 ((0 : Nat) + (Int.toNat x.fst))) y1.snd.snd.AA.AD.n (x.snd.rings.get i3).x.AA.AD.n) (fun i4 => (V.int IntKind.u64 (cond (Nat.beq i3 ((0 : Nat) + (Int.toNat x.fst))) (y1.snd.snd.AA.AD.get i4) ((x.snd.rings.get i3).x.AA.AD.get i4))))) V.unit)) (V.cons (V.Ai (cond (Nat.beq i3 ((0 : Nat) + (Int.toNat x.fst))) y1.snd.snd.s.nil (x.snd.rings.get i3).x.s.nil) (V.cons (V.A1 206 3 (cond (Nat.beq i3 ((0 : Nat) + (Int.toNat x.fst))) y1.snd.snd.s.x.l.nil (x.snd.rings.get i3).x.s.x.l.nil) (cond (Nat.beq i3 ((0 : Nat) + (Int.toNat x.fst))) y1.snd.snd.s.x.l.n (x.snd.rings.get i3).x.s.x.l.n) (fun i4 => (V.cons (V.int IntKind.u64 (cond (Nat.beq i3 ((0 : Nat) + (Int.toNat x.fst))) (y1.snd.snd.s.x.l.get i4).AO ((x.snd.rings.get i3).x.s.x.l.get i4).AO)) (V.cons (V.int IntKind.u64 (cond (Nat.beq i3 ((0 : Nat) + (Int.toNat x.fst))) (y1.snd.snd.s.x.l.get i4).Value ((x.snd.rings.get i3).x.s.x.l.get i4).Value)) (V.cons (V.int IntKind.i64 (cond (Nat.beq i3 ((0 : Nat) + (Int.toNat x.fst))) (y1.snd.snd.s.x.l.get i4).Left ((x.snd.rings.get i3).x.s.x.l.get i4).Left)) V.unit))))) (V.cons (V.int IntKind.i64 (cond (Nat.beq i3 ((0 : Nat) + (Int.toNat x.fst))) y1.snd.snd.s.x.AV (x.snd.rings.get i3).x.s.x.AV)) V.unit))) (V.cons (V.int IntKind.u64 (cond (Nat.beq i3 ((0 : Nat) + (Int.toNat x.fst))) y1.snd.snd.most (x.snd.rings.get i3).x.most)) (V.cons (V.bool (cond (Nat.beq i3 ((0 : Nat) + (Int.toNat x.fst))) y1.snd.snd.closed (x.snd.rings.get i3).x.closed)) V.unit)))))))) <|
 (.need ((true && true) && (Nat.beq x.snd.rings.n x.snd.rings.n)) <|
 (.need (Az x.fst x.snd.p.AJ.n) <|
 (.call con_fb ((x.snd.p.AJ.get (Int.toNat x.fst)), (TRs.mk (IntKind.u64.wrap (y2.Au + 1)) y2.AY y2.Aw y2.Am)) fun (y3 : R_fb) =>
 (.ite (AX y3.snd 0)
 (.need (Az x.fst x.snd.rings.n) <|
 (.need ((Nat.beq x.snd.rings.n x.snd.rings.n) && true) <|
 (.need ((true && true) && (Nat.beq x.snd.rings.n x.snd.rings.n)) <|
 (.ret (TFa.mk x.snd.p x.snd.threads (Sl.mk x.snd.rings.nil x.snd.rings.n (fun i4 => (Bx.mk (cond (Nat.beq i4 ((0 : Nat) + (Int.toNat x.fst))) y3.fst.nil (cond (Nat.beq i4 ((0 : Nat) + (Int.toNat x.fst))) false (cond (Nat.beq i4 ((0 : Nat) + (Int.toNat x.fst))) false (x.snd.rings.get i4).nil))) (TRr.mk (TRc.mk (cond (Nat.beq i4 ((0 : Nat) + (Int.toNat x.fst))) y3.fst.x.AA.tail (cond (Nat.beq i4 ((0 : Nat) + (Int.toNat x.fst))) (cond (Nat.beq ((0 : Nat) + (Int.toNat x.fst)) ((0 : Nat) + (Int.toNat x.fst))) y1.snd.snd.AA.tail (x.snd.rings.get ((0 : Nat) + (Int.toNat x.fst))).x.AA.tail) (cond (Nat.beq i4 ((0 : Nat) + (Int.toNat x.fst))) y1.snd.snd.AA.tail (x.snd.rings.get i4).x.AA.tail))) (Sl.mk (cond (Nat.beq i4 ((0 : Nat) + (Int.toNat x.fst))) y3.fst.x.AA.AD.nil (cond (Nat.beq i4 ((0 : Nat) + (Int.toNat x.fst))) (cond (Nat.beq ((0 : Nat) + (Int.toNat x.fst)) ((0 : Nat) + (Int.toNat x.fst))) y1.snd.snd.AA.AD.nil (x.snd.rings.get ((0 : Nat) + (Int.toNat x.fst))).x.AA.AD.nil) (cond (Nat.beq i4 ((0 : Nat) + (Int.toNat x.fst))) y1.snd.snd.AA.AD.nil (x.snd.rings.get i4).x.AA.AD.nil))) (cond (Nat.beq i4 ((0 : Nat) + (Int.toNat x.fst))) y3.fst.x.AA.AD.n (cond (Nat.beq i4 ((0 : Nat) + (Int.toNat x.fst))) (cond (Nat.beq ((0 : Nat) + (Int.toNat x.fst)) ((0 : Nat) + (Int.toNat x.fst))) y1.snd.snd.AA.AD.n (x.snd.rings.get ((0 : Nat) + (Int.toNat x.fst))).x.AA.AD.n) (cond (Nat.beq i4 ((0 : Nat) + (Int.toNat x.fst))) y1.snd.snd.AA.AD.n (x.snd.rings.get i4).x.AA.AD.n))) (fun i5 => (cond (Nat.beq i4 ((0 : Nat) + (Int.toNat x.fst))) (y3.fst.x.AA.AD.get i5) (cond (Nat.beq i4 ((0 : Nat) + (Int.toNat x.fst))) (cond (Nat.beq ((0 : Nat) + (Int.toNat x.fst)) ((0 : Nat) + (Int.toNat x.fst))) (y1.snd.snd.AA.AD.get i5) ((x.snd.rings.get ((0 : Nat) + (Int.toNat x.fst))).x.AA.AD.get i5)) (cond (Nat.beq i4 ((0 : Nat) + (Int.toNat x.fst))) (y1.snd.snd.AA.AD.get i5) ((x.snd.rings.get i4).x.AA.AD.get i5))))))) (Bx.mk (cond (Nat.beq i4 ((0 : Nat) + (Int.toNat x.fst))) y3.fst.x.s.nil (cond (Nat.beq i4 ((0 : Nat) + (Int.toNat x.fst))) (cond (Nat.beq ((0 : Nat) + (Int.toNat x.fst)) ((0 : Nat) + (Int.toNat x.fst))) y1.snd.snd.s.nil (x.snd.rings.get ((0 : Nat) + (Int.toNat x.fst))).x.s.nil) (cond (Nat.beq i4 ((0 : Nat) + (Int.toNat x.fst))) y1.snd.snd.s.nil (x.snd.rings.get i4).x.s.nil))) (TSs.mk (Sl.mk (cond (Nat.beq i4 ((0 : Nat) + (Int.toNat x.fst))) y3.fst.x.s.x.l.nil (cond (Nat.beq i4 ((0 : Nat) + (Int.toNat x.fst))) (cond (Nat.beq ((0 : Nat) + (Int.toNat x.fst)) ((0 : Nat) + (Int.toNat x.fst))) y1.snd.snd.s.x.l.nil (x.snd.rings.get ((0 : Nat) + (Int.toNat x.fst))).x.s.x.l.nil) (cond (Nat.beq i4 ((0 : Nat) + (Int.toNat x.fst))) y1.snd.snd.s.x.l.nil (x.snd.rings.get i4).x.s.x.l.nil))) (cond (Nat.beq i4 ((0 : Nat) + (Int.toNat x.fst))) y3.fst.x.s.x.l.n (cond (Nat.beq i4 ((0 : Nat) + (Int.toNat x.fst))) (cond (Nat.beq ((0 : Nat) + (Int.toNat x.fst)) ((0 : Nat) + (Int.toNat x.fst))) y1.snd.snd.s.x.l.n (x.snd.rings.get ((0 : Nat) + (Int.toNat x.fst))).x.s.x.l.n) (cond (Nat.beq i4 ((0 : Nat) + (Int.toNat x.fst))) y1.snd.snd.s.x.l.n (x.snd.rings.get i4).x.s.x.l.n))) (fun i5 => (TSo.mk (cond (Nat.beq i4 ((0 : Nat) + (Int.toNat x.fst))) (y3.fst.x.s.x.l.get i5).AO (cond (Nat.beq i4 ((0 : Nat) + (Int.toNat x.fst))) (cond (Nat.beq ((0 : Nat) + (Int.toNat x.fst)) ((0 : Nat) + (Int.toNat x.fst))) (y1.snd.snd.s.x.l.get i5).AO ((x.snd.rings.get ((0 : Nat) + (Int.toNat x.fst))).x.s.x.l.get i5).AO) (cond (Nat.beq i4 ((0 : Nat) + (Int.toNat x.fst))) (y1.snd.snd.s.x.l.get i5).AO ((x.snd.rings.get i4).x.s.x.l.get i5).AO))) (cond (Nat.beq i4 ((0 : Nat) + (Int.toNat x.fst))) (y3.fst.x.s.x.l.get i5).Value (cond (Nat.beq i4 ((0 : Nat) + (Int.toNat x.fst))) (cond (Nat.beq ((0 : Nat) + (Int.toNat x.fst)) ((0 : Nat) + (Int.toNat x.fst))) (y1.snd.snd.s.x.l.get i5).Value ((x.snd.rings.get ((0 : Nat) + (Int.toNat x.fst))).x.s.x.l.get i5).Value) (cond (Nat.beq i4 ((0 : Nat) + (Int.toNat x.fst))) (y1.snd.snd.s.x.l.get i5).Value ((x.snd.rings.get i4).x.s.x.l.get i5).Value))) (cond (Nat.beq i4 ((0 : Nat) + (Int.toNat x.fst))) (y3.fst.x.s.x.l.get i5).Left (cond (Nat.beq i4 ((0 : Nat) + (Int.toNat x.fst))) (cond (Nat.beq ((0 : Nat) + (Int.toNat x.fst)) ((0 : Nat) + (Int.toNat x.fst))) (y1.snd.snd.s.x.l.get i5).Left ((x.snd.rings.get ((0 : Nat) + (Int.toNat x.fst))).x.s.x.l.get i5).Left) (cond (Nat.beq i4 ((0 : Nat) + (Int.toNat x.fst))) (y1.snd.snd.s.x.l.get i5).Left ((x.snd.rings.get i4).x.s.x.l.get i5).Left)))))) (cond (Nat.beq i4 ((0 : Nat) + (Int.toNat x.fst))) y3.fst.x.s.x.AV (cond (Nat.beq i4 ((0 : Nat) + (Int.toNat x.fst))) (cond (Nat.beq ((0 : Nat) + (Int.toNat x.fst)) ((0 : Nat) + (Int.toNat x.fst))) y1.snd.snd.s.x.AV (x.snd.rings.get ((0 : Nat) + (Int.toNat x.fst))).x.s.x.AV) (cond (Nat.beq i4 ((0 : Nat) + (Int.toNat x.fst))) y1.snd.snd.s.x.AV (x.snd.rings.get i4).x.s.x.AV))))) (cond (Nat.beq i4 ((0 : Nat) + (Int.toNat x.fst))) y3.fst.x.most (cond (Nat.beq i4 ((0 : Nat) + (Int.toNat x.fst))) (cond (Nat.beq ((0 : Nat) + (Int.toNat x.fst)) ((0 : Nat) + (Int.toNat x.fst))) y1.snd.snd.most (x.snd.rings.get ((0 : Nat) + (Int.toNat x.fst))).x.most) (cond (Nat.beq i4 ((0 : Nat) + (Int.toNat x.fst))) y1.snd.snd.most (x.snd.rings.get i4).x.most))) (cond (Nat.beq i4 ((0 : Nat) + (Int.toNat x.fst))) y3.fst.x.closed (cond (Nat.beq i4 ((0 : Nat) + (Int.toNat x.fst))) (cond (Nat.beq ((0 : Nat) + (Int.toNat x.fst)) ((0 : Nat) + (Int.toNat x.fst))) y1.snd.snd.closed (x.snd.rings.get ((0 : Nat) + (Int.toNat x.fst))).x.closed) (cond (Nat.beq i4 ((0 : Nat) + (Int.toNat x.fst))) y1.snd.snd.closed (x.snd.rings.get i4).x.closed))))))) x.snd.now x.snd.reads x.snd.ended)))))
 (.ret (TFa.mk x.snd.p x.snd.threads (Sl.mk x.snd.rings.nil x.snd.rings.n (fun i4 => (Bx.mk (cond (Nat.beq i4 ((0 : Nat) + (Int.toNat x.fst))) false (cond (Nat.beq i4 ((0 : Nat) + (Int.toNat x.fst))) false (x.snd.rings.get i4).nil)) (TRr.mk (TRc.mk (cond (Nat.beq i4 ((0 : Nat) + (Int.toNat x.fst))) (cond (Nat.beq ((0 : Nat) + (Int.toNat x.fst)) ((0 : Nat) + (Int.toNat x.fst))) y1.snd.snd.AA.tail (x.snd.rings.get ((0 : Nat) + (Int.toNat x.fst))).x.AA.tail) (cond (Nat.beq i4 ((0 : Nat) + (Int.toNat x.fst))) y1.snd.snd.AA.tail (x.snd.rings.get i4).x.AA.tail)) (Sl.mk (cond (Nat.beq i4 ((0 : Nat) + (Int.toNat x.fst))) (cond (Nat.beq ((0 : Nat) + (Int.toNat x.fst)) ((0 : Nat) + (Int.toNat x.fst))) y1.snd.snd.AA.AD.nil (x.snd.rings.get ((0 : Nat) + (Int.toNat x.fst))).x.AA.AD.nil) (cond (Nat.beq i4 ((0 : Nat) + (Int.toNat x.fst))) y1.snd.snd.AA.AD.nil (x.snd.rings.get i4).x.AA.AD.nil)) (cond (Nat.beq i4 ((0 : Nat) + (Int.toNat x.fst))) (cond (Nat.beq ((0 : Nat) + (Int.toNat x.fst)) ((0 : Nat) + (Int.toNat x.fst))) y1.snd.snd.AA.AD.n (x.snd.rings.get ((0 : Nat) + (Int.toNat x.fst))).x.AA.AD.n) (cond (Nat.beq i4 ((0 : Nat) + (Int.toNat x.fst))) y1.snd.snd.AA.AD.n (x.snd.rings.get i4).x.AA.AD.n)) (fun i5 => (cond (Nat.beq i4 ((0 : Nat) + (Int.toNat x.fst))) (cond (Nat.beq ((0 : Nat) + (Int.toNat x.fst)) ((0 : Nat) + (Int.toNat x.fst))) (y1.snd.snd.AA.AD.get i5) ((x.snd.rings.get ((0 : Nat) + (Int.toNat x.fst))).x.AA.AD.get i5)) (cond (Nat.beq i4 ((0 : Nat) + (Int.toNat x.fst))) (y1.snd.snd.AA.AD.get i5) ((x.snd.rings.get i4).x.AA.AD.get i5)))))) (Bx.mk (cond (Nat.beq i4 ((0 : Nat) + (Int.toNat x.fst))) (cond (Nat.beq ((0 : Nat) + (Int.toNat x.fst)) ((0 : Nat) + (Int.toNat x.fst))) y1.snd.snd.s.nil (x.snd.rings.get ((0 : Nat) + (Int.toNat x.fst))).x.s.nil) (cond (Nat.beq i4 ((0 : Nat) + (Int.toNat x.fst))) y1.snd.snd.s.nil (x.snd.rings.get i4).x.s.nil)) (TSs.mk (Sl.mk (cond (Nat.beq i4 ((0 : Nat) + (Int.toNat x.fst))) (cond (Nat.beq ((0 : Nat) + (Int.toNat x.fst)) ((0 : Nat) + (Int.toNat x.fst))) y1.snd.snd.s.x.l.nil (x.snd.rings.get ((0 : Nat) + (Int.toNat x.fst))).x.s.x.l.nil) (cond (Nat.beq i4 ((0 : Nat) + (Int.toNat x.fst))) y1.snd.snd.s.x.l.nil (x.snd.rings.get i4).x.s.x.l.nil)) (cond (Nat.beq i4 ((0 : Nat) + (Int.toNat x.fst))) (cond (Nat.beq ((0 : Nat) + (Int.toNat x.fst)) ((0 : Nat) + (Int.toNat x.fst))) y1.snd.snd.s.x.l.n (x.snd.rings.get ((0 : Nat) + (Int.toNat x.fst))).x.s.x.l.n) (cond (Nat.beq i4 ((0 : Nat) + (Int.toNat x.fst))) y1.snd.snd.s.x.l.n (x.snd.rings.get i4).x.s.x.l.n)) (fun i5 => (TSo.mk (cond (Nat.beq i4 ((0 : Nat) + (Int.toNat x.fst))) (cond (Nat.beq ((0 : Nat) + (Int.toNat x.fst)) ((0 : Nat) + (Int.toNat x.fst))) (y1.snd.snd.s.x.l.get i5).AO ((x.snd.rings.get ((0 : Nat) + (Int.toNat x.fst))).x.s.x.l.get i5).AO) (cond (Nat.beq i4 ((0 : Nat) + (Int.toNat x.fst))) (y1.snd.snd.s.x.l.get i5).AO ((x.snd.rings.get i4).x.s.x.l.get i5).AO)) (cond (Nat.beq i4 ((0 : Nat) + (Int.toNat x.fst))) (cond (Nat.beq ((0 : Nat) + (Int.toNat x.fst)) ((0 : Nat) + (Int.toNat x.fst))) (y1.snd.snd.s.x.l.get i5).Value ((x.snd.rings.get ((0 : Nat) + (Int.toNat x.fst))).x.s.x.l.get i5).Value) (cond (Nat.beq i4 ((0 : Nat) + (Int.toNat x.fst))) (y1.snd.snd.s.x.l.get i5).Value ((x.snd.rings.get i4).x.s.x.l.get i5).Value)) (cond (Nat.beq i4 ((0 : Nat) + (Int.toNat x.fst))) (cond (Nat.beq ((0 : Nat) + (Int.toNat x.fst)) ((0 : Nat) + (Int.toNat x.fst))) (y1.snd.snd.s.x.l.get i5).Left ((x.snd.rings.get ((0 : Nat) + (Int.toNat x.fst))).x.s.x.l.get i5).Left) (cond (Nat.beq i4 ((0 : Nat) + (Int.toNat x.fst))) (y1.snd.snd.s.x.l.get i5).Left ((x.snd.rings.get i4).x.s.x.l.get i5).Left))))) (cond (Nat.beq i4 ((0 : Nat) + (Int.toNat x.fst))) (cond (Nat.beq ((0 : Nat) + (Int.toNat x.fst)) ((0 : Nat) + (Int.toNat x.fst))) y1.snd.snd.s.x.AV (x.snd.rings.get ((0 : Nat) + (Int.toNat x.fst))).x.s.x.AV) (cond (Nat.beq i4 ((0 : Nat) + (Int.toNat x.fst))) y1.snd.snd.s.x.AV (x.snd.rings.get i4).x.s.x.AV)))) (cond (Nat.beq i4 ((0 : Nat) + (Int.toNat x.fst))) (cond (Nat.beq ((0 : Nat) + (Int.toNat x.fst)) ((0 : Nat) + (Int.toNat x.fst))) y1.snd.snd.most (x.snd.rings.get ((0 : Nat) + (Int.toNat x.fst))).x.most) (cond (Nat.beq i4 ((0 : Nat) + (Int.toNat x.fst))) y1.snd.snd.most (x.snd.rings.get i4).x.most)) (cond (Nat.beq i4 ((0 : Nat) + (Int.toNat x.fst))) (cond (Nat.beq ((0 : Nat) + (Int.toNat x.fst)) ((0 : Nat) + (Int.toNat x.fst))) y1.snd.snd.closed (x.snd.rings.get ((0 : Nat) + (Int.toNat x.fst))).x.closed) (cond (Nat.beq i4 ((0 : Nat) + (Int.toNat x.fst))) y1.snd.snd.closed (x.snd.rings.get i4).x.closed)))))) x.snd.now x.snd.reads x.snd.ended))))))))))))))))))
theorem sd_f2d (x : X_f2d) : (tt_f2d x).AH :=
 (TT.sN (TT.sN (TT.sC fun _ => (TT.sN (TT.sS rfl (TT.sN (TT.sI TT.sR (TT.sN (TT.sN (TT.sC fun _ => (TT.sN (TT.sS rfl (TT.sN (TT.sN (TT.sC fun _ => (TT.sI (TT.sN (TT.sN (TT.sN TT.sR))) TT.sR))))))))))))))))
def D_f2d : AU X_f2d R_f2d := .of tt_f2d
def con_f2d : A3 Tryz.prog :=
 BS 99 J_f2d S_f2d D_f2d 2 1 [.any, .any] (lk mxk lbn sd_f2d)
abbrev X_f31 : Type := Int × Int × TSs
abbrev R_f31 : Type := Int × TSs
def J_f31 : A8 Tryz.prog :=
 BD Tryz.prog Tryz.f144 43 [] [(8, [.close (.loc 14 0)]), (10, [.close (.loc 14 0)]), (11, [.close (.loc 14 0)])] [(5, [.IQ (.par 0) [.CC 0 0] 14])] [.close (.loc 14 0)] [.any] [sh_TSs] [con_fs, con_f2t, con_f3b] R_f31 [(0, [⟨.loc 14 0, .par 0, [.CC 0 0], none, none⟩])] fun y => [(V.int .i64) y.1, e_TSs y.2]
def S_f31 : AM :=
 Ae Tryz.f144 3 1 X_f31 (fun x => [(V.ptr (.par 0) []), (V.int .u64) x.1, (V.int .u64) x.2.1, e_TSs x.2.2]) fun l => (dI (at_ l 1), dI (at_ l 2), d_TSs (at_ l 3))
def tt_f31 (x : X_f31) : TT Tryz.prog R_f31 :=
 (.ite (BW 4611686018427387904 x.fst)
 (.ret (1, x.snd.snd))
 (.call con_fs (x.fst, ((TSs_L0.mk (Ln.mk x.snd.snd.l.nil x.snd.snd.l.n) x.snd.snd.AV), (Ar.mk x.snd.snd.l.n x.snd.snd.l.get))) fun (y1 : R_fs) =>
 (.need ((Nat.beq x.snd.snd.l.n y1.snd) && true) <|
 (.call con_f2t x.fst fun (y2 : R_f2t) =>
 (.ite (BR (x.snd.snd.l.get y1.fst).AO y2)
 (.need ((true && true) && (Nat.beq x.snd.snd.l.n x.snd.snd.l.n)) <|
 (.ret (8, x.snd.snd)))
 (.need ((Nat.beq x.snd.snd.l.n y1.snd) && true) <|
 (.call con_f2t x.fst fun (y3 : R_f2t) =>
 (.ite (BR y3 (x.snd.snd.l.get y1.fst).AO)
 (.need ((true && true) && (Nat.beq x.snd.snd.l.n x.snd.snd.l.n)) <|
 (.ret (11, x.snd.snd)))
 (.call con_f3b x.fst fun (y4 : R_f3b) =>
 (.need (BW 0 x.snd.snd.AV) <|
 (.need ((Nat.beq x.snd.snd.l.n y1.snd) && true) <|
 (.need ((true && true) && (Nat.beq x.snd.snd.l.n x.snd.snd.l.n)) <|
 (.ret (0, (TSs.mk (Sl.mk x.snd.snd.l.nil x.snd.snd.l.n (fun i5 => (TSo.mk (cond (Nat.beq i5 y1.fst) y4 (x.snd.snd.l.get i5).AO) (cond (Nat.beq i5 y1.fst) x.snd.fst (x.snd.snd.l.get i5).Value) (cond (Nat.beq i5 y1.fst) (IntKind.i64.wrap ((shl IntKind.i64 1 x.snd.snd.AV) - 1)) (x.snd.snd.l.get i5).Left)))) x.snd.snd.AV)))))))))))))))
theorem sd_f31 (x : X_f31) : (tt_f31 x).AH :=
 (TT.sI TT.sR (TT.sC fun _ => (TT.sN (TT.sC fun _ => (TT.sI (TT.sN TT.sR) (TT.sN (TT.sC fun _ => (TT.sI (TT.sN TT.sR) (TT.sC fun _ => (TT.sN (TT.sN (TT.sN TT.sR))))))))))))
def D_f31 : AU X_f31 R_f31 := .of tt_f31
def con_f31 : A3 Tryz.prog :=
 BS 144 J_f31 S_f31 D_f31 3 1 [.any, .any, .any] (lk mxk lbn sd_f31)
abbrev X_f2n : Type := Int × Int × TRr
abbrev R_f2n : Type := Int × TRr
def J_f2n : A8 Tryz.prog :=
 BD Tryz.prog Tryz.f100 25 [] [] [] [.close (.loc 21 0)] [.any] [sh_TRr] [con_f31] R_f2n [] fun y => [(V.int .i64) y.1, e_TRr y.2]
def S_f2n : AM :=
 Ae Tryz.f100 3 1 X_f2n (fun x => [(V.ptr (.par 0) []), (V.int .u64) x.1, (V.int .u64) x.2.1, e_TRr x.2.2]) fun l => (dI (at_ l 1), dI (at_ l 2), d_TRr (at_ l 3))
def tt_f2n (x : X_f2n) : TT Tryz.prog R_f2n :=
 (.ite (BW x.snd.snd.AA.tail x.fst)
 (.ret (11, x.snd.snd))
 (.need (true && (!x.snd.snd.s.nil)) <|
 (.call con_f31 (x.fst, (x.snd.fst, x.snd.snd.s.x)) fun (y1 : R_f31) =>
 (.ret (y1.fst, (TRr.mk x.snd.snd.AA (Bx.mk false y1.snd) x.snd.snd.most x.snd.snd.closed))))))
theorem sd_f2n (x : X_f2n) : (tt_f2n x).AH :=
 (TT.sI TT.sR (TT.sN (TT.sC fun _ => TT.sR)))
def D_f2n : AU X_f2n R_f2n := .of tt_f2n
def con_f2n : A3 Tryz.prog :=
 BS 100 J_f2n S_f2n D_f2n 3 1 [.any, .any, .any] (lk mxk lbn sd_f2n)
abbrev X_f19 : Type := Int × TRr
abbrev R_f19 : Type := Int × Int × TRr
def J_f19 : A8 Tryz.prog :=
 BD Tryz.prog Tryz.f101 49 [] [(10, [.close (.loc 34 0)])] [] [.close (.loc 44 0), .close (.loc 34 0)] [.any, .any] [sh_TRr] [con_f1d, con_fv] R_f19 [] fun y => [V.B9 (V.cons ((V.int .u64) y.1) (V.cons ((V.int .i64) y.2.1) (V.unit))), e_TRr y.2.2]
def S_f19 : AM :=
 Ae Tryz.f101 2 1 X_f19 (fun x => [(V.ptr (.par 0) []), (V.int .i64) x.1, e_TRr x.2]) fun l => (dI (at_ l 1), d_TRr (at_ l 2))
structure X_f19_9 where
 EL : Int
 Ah : TRr
def S_f19_9 : AM :=
 Ad Tryz.f101 9 (an [0, 1]) [sh_TRr] [] X_f19_9 (fun x => [(V.ptr (.par 0) []), (V.int .i64) x.EL, e_TRr x.Ah]) fun l => ⟨dI (at_ l 1), d_TRr (at_ l 2)⟩
def tt_f19_9 (x : X_f19_9) : TT Tryz.prog R_f19 :=
 (.need (Az x.EL x.Ah.AA.AD.n) <|
 (.need ((Nat.beq x.Ah.AA.AD.n x.Ah.AA.AD.n) && true) <|
 (.need (Az x.EL x.Ah.AA.AD.n) <|
 (.need ((Nat.beq x.Ah.AA.AD.n x.Ah.AA.AD.n) && true) <|
 (.need ((true && true) && (Nat.beq x.Ah.AA.AD.n x.Ah.AA.AD.n)) <|
 (.need (Az x.EL x.Ah.AA.AD.n) <|
 (.need ((Nat.beq x.Ah.AA.AD.n x.Ah.AA.AD.n) && true) <|
 (.need ((true && true) && (Nat.beq x.Ah.AA.AD.n x.Ah.AA.AD.n)) <|
 (.ret ((IntKind.u64.wrap ((cond (Nat.beq ((0 : Nat) + (Int.toNat x.EL)) ((0 : Nat) + (Int.toNat x.EL))) (IntKind.u64.wrap ((x.Ah.AA.AD.get ((0 : Nat) + (Int.toNat x.EL))) + 1)) (x.Ah.AA.AD.get ((0 : Nat) + (Int.toNat x.EL)))) - 1)), (0, (TRr.mk (TRc.mk x.Ah.AA.tail (Sl.mk x.Ah.AA.AD.nil x.Ah.AA.AD.n (fun i1 => (cond (Nat.beq i1 ((0 : Nat) + (Int.toNat x.EL))) (IntKind.u64.wrap ((x.Ah.AA.AD.get ((0 : Nat) + (Int.toNat x.EL))) + 1)) (x.Ah.AA.AD.get i1))))) x.Ah.s x.Ah.most x.Ah.closed))))))))))))
theorem sd_f19_9 (x : X_f19_9) : (tt_f19_9 x).AH :=
 (TT.sN (TT.sN (TT.sN (TT.sN (TT.sN (TT.sN (TT.sN (TT.sN TT.sR))))))))
def D_f19_9 : AU X_f19_9 R_f19 := .of tt_f19_9
theorem ok_f19_9 : AW J_f19 S_f19_9 D_f19_9 :=
 lk mxk lbn sd_f19_9
def tt_f19 (x : X_f19) : TT Tryz.prog R_f19 :=
 (.call con_fv (x.fst, x.snd.AA) fun (y1 : R_fv) =>
 (.ite (!y1)
 (.ret (0, (1, x.snd)))
 (.call con_f1d x fun (y2 : R_f1d) =>
 (.ite y2
 (.ite x.snd.closed
 (.ret (0, (10, x.snd)))
 (.call con_f1d x fun (y3 : R_f1d) =>
 (.ite y3
 (.ret (0, (9, x.snd)))
 (.jump S_f19_9 D_f19_9 (X_f19_9.mk x.fst x.snd)))))
 (.call con_f1d x fun (y3 : R_f1d) =>
 (.ite y3
 (.ret (0, (9, x.snd)))
 (.jump S_f19_9 D_f19_9 (X_f19_9.mk x.fst x.snd))))))))
theorem sd_f19 (x : X_f19) : (tt_f19 x).AH :=
 (TT.sC fun _ => (TT.sI TT.sR (TT.sC fun _ => (TT.sI (TT.sI TT.sR (TT.sC fun _ => (TT.sI TT.sR TT.sJ))) (TT.sC fun _ => (TT.sI TT.sR TT.sJ))))))
def D_f19 : AU X_f19 R_f19 := .of tt_f19
def con_f19 : A3 Tryz.prog :=
 BS 101 J_f19 S_f19 D_f19 2 1 [.any, .any] (lk mxk (lbc ok_f19_9 rfl lbn) sd_f19)
abbrev X_f32 : Type := Int × Int × TSs
abbrev R_f32 : Type := Int × Int × TSs
def J_f32 : A8 Tryz.prog :=
 BD Tryz.prog Tryz.f145 52 [] [(9, [.close (.loc 44 0), .close (.loc 20 0)])] [(4, [.IQ (.par 0) [.CC 0 0] 20])] [.close (.loc 44 0), .close (.loc 20 0)] [.any, .any] [sh_TSs] [con_fm, con_fs, con_f2t] R_f32 [(0, [⟨.loc 20 0, .par 0, [.CC 0 0], none, none⟩])] fun y => [V.B9 (V.cons ((V.int .u64) y.1) (V.cons ((V.int .i64) y.2.1) (V.unit))), e_TSs y.2.2]
def S_f32 : AM :=
 Ae Tryz.f145 3 1 X_f32 (fun x => [(V.ptr (.par 0) []), (V.int .i64) x.1, (V.int .u64) x.2.1, e_TSs x.2.2]) fun l => (dI (at_ l 1), dI (at_ l 2), d_TSs (at_ l 3))
def tt_f32 (x : X_f32) : TT Tryz.prog R_f32 :=
 (.call con_fm x fun (y1 : R_fm) =>
 (.ite (!(AX y1 0))
 (.ret (0, (y1, x.snd.snd)))
 (.call con_fs (x.snd.fst, ((TSs_L0.mk (Ln.mk x.snd.snd.l.nil x.snd.snd.l.n) x.snd.snd.AV), (Ar.mk x.snd.snd.l.n x.snd.snd.l.get))) fun (y2 : R_fs) =>
 (.need ((Nat.beq x.snd.snd.l.n y2.snd) && true) <|
 (.need ((Nat.beq x.snd.snd.l.n y2.snd) && true) <|
 (.need (BW 0 x.fst) <|
 (.need ((Nat.beq x.snd.snd.l.n y2.snd) && true) <|
 (.need ((Nat.beq x.snd.snd.l.n y2.snd) && true) <|
 (.ite (AX (cond (Nat.beq y2.fst y2.fst) (Vm.bits .andNot IntKind.i64 (x.snd.snd.l.get y2.fst).Left (shl IntKind.i64 1 x.fst)) (x.snd.snd.l.get y2.fst).Left) 0)
 (.call con_f2t (IntKind.u64.wrap (x.snd.fst + (IntKind.u64.wrap ((x.snd.snd.l.n : Nat) : Int)))) fun (y3 : R_f2t) =>
 (.need ((Nat.beq x.snd.snd.l.n y2.snd) && true) <|
 (.need ((true && true) && (Nat.beq x.snd.snd.l.n x.snd.snd.l.n)) <|
 (.ret ((x.snd.snd.l.get y2.fst).Value, (0, (TSs.mk (Sl.mk x.snd.snd.l.nil x.snd.snd.l.n (fun i4 => (TSo.mk (cond (Nat.beq i4 y2.fst) y3 (cond (Nat.beq i4 y2.fst) (x.snd.snd.l.get y2.fst).AO (x.snd.snd.l.get i4).AO)) (cond (Nat.beq i4 y2.fst) (0 : Int) (cond (Nat.beq i4 y2.fst) (x.snd.snd.l.get y2.fst).Value (x.snd.snd.l.get i4).Value)) (cond (Nat.beq i4 y2.fst) (0 : Int) (cond (Nat.beq i4 y2.fst) (Vm.bits .andNot IntKind.i64 (x.snd.snd.l.get y2.fst).Left (shl IntKind.i64 1 x.fst)) (x.snd.snd.l.get i4).Left))))) x.snd.snd.AV)))))))
 (.need ((true && true) && (Nat.beq x.snd.snd.l.n x.snd.snd.l.n)) <|
 (.ret ((x.snd.snd.l.get y2.fst).Value, (0, (TSs.mk (Sl.mk x.snd.snd.l.nil x.snd.snd.l.n (fun i3 => (TSo.mk (cond (Nat.beq i3 y2.fst) (x.snd.snd.l.get y2.fst).AO (x.snd.snd.l.get i3).AO) (cond (Nat.beq i3 y2.fst) (x.snd.snd.l.get y2.fst).Value (x.snd.snd.l.get i3).Value) (cond (Nat.beq i3 y2.fst) (Vm.bits .andNot IntKind.i64 (x.snd.snd.l.get y2.fst).Left (shl IntKind.i64 1 x.fst)) (x.snd.snd.l.get i3).Left)))) x.snd.snd.AV))))))))))))))
theorem sd_f32 (x : X_f32) : (tt_f32 x).AH :=
 (TT.sC fun _ => (TT.sI TT.sR (TT.sC fun _ => (TT.sN (TT.sN (TT.sN (TT.sN (TT.sN (TT.sI (TT.sC fun _ => (TT.sN (TT.sN TT.sR))) (TT.sN TT.sR))))))))))
def D_f32 : AU X_f32 R_f32 := .of tt_f32
def con_f32 : A3 Tryz.prog :=
 BS 145 J_f32 S_f32 D_f32 3 1 [.any, .any, .any] (lk mxk lbn sd_f32)
abbrev X_f2o : Type := Int × Int × TRr
abbrev R_f2o : Type := Int × Int × TRr
def J_f2o : A8 Tryz.prog :=
 BD Tryz.prog Tryz.f102 38 [] [(6, [.close (.loc 24 0)]), (7, [.close (.loc 24 0)])] [] [.close (.loc 32 0), .close (.loc 24 0)] [.any, .any] [sh_TRr] [con_fv, con_f32] R_f2o [] fun y => [V.B9 (V.cons ((V.int .u64) y.1) (V.cons ((V.int .i64) y.2.1) (V.unit))), e_TRr y.2.2]
def S_f2o : AM :=
 Ae Tryz.f102 3 1 X_f2o (fun x => [(V.ptr (.par 0) []), (V.int .i64) x.1, (V.int .u64) x.2.1, e_TRr x.2.2]) fun l => (dI (at_ l 1), dI (at_ l 2), d_TRr (at_ l 3))
def tt_f2o (x : X_f2o) : TT Tryz.prog R_f2o :=
 (.call con_fv (x.fst, x.snd.snd.AA) fun (y1 : R_fv) =>
 (.ite (!y1)
 (.ret (0, (1, x.snd.snd)))
 (.need (Az x.fst x.snd.snd.AA.AD.n) <|
 (.need ((Nat.beq x.snd.snd.AA.AD.n x.snd.snd.AA.AD.n) && true) <|
 (.ite (BW (x.snd.snd.AA.AD.get ((0 : Nat) + (Int.toNat x.fst))) x.snd.fst)
 (.need ((true && true) && (Nat.beq x.snd.snd.AA.AD.n x.snd.snd.AA.AD.n)) <|
 (.ret (0, (11, x.snd.snd))))
 (.need ((true && true) && (Nat.beq x.snd.snd.AA.AD.n x.snd.snd.AA.AD.n)) <|
 (.need (true && (!x.snd.snd.s.nil)) <|
 (.call con_f32 (x.fst, (x.snd.fst, x.snd.snd.s.x)) fun (y2 : R_f32) =>
 (.ret (y2.fst, (y2.snd.fst, (TRr.mk x.snd.snd.AA (Bx.mk false y2.snd.snd) x.snd.snd.most x.snd.snd.closed))))))))))))
theorem sd_f2o (x : X_f2o) : (tt_f2o x).AH :=
 (TT.sC fun _ => (TT.sI TT.sR (TT.sN (TT.sN (TT.sI (TT.sN TT.sR) (TT.sN (TT.sN (TT.sC fun _ => TT.sR))))))))
def D_f2o : AU X_f2o R_f2o := .of tt_f2o
def con_f2o : A3 Tryz.prog :=
 BS 102 J_f2o S_f2o D_f2o 3 1 [.any, .any, .any] (lk mxk lbn sd_f2o)
abbrev X_f35 : Type := TRr
abbrev R_f35 : Type := Int × TRr
def J_f35 : A8 Tryz.prog :=
 BD Tryz.prog Tryz.f103 8 [] [] [] [] [.any] [sh_TRr] [] R_f35 [] fun y => [(V.int .i64) y.1, e_TRr y.2]
def S_f35 : AM :=
 Ae Tryz.f103 1 1 X_f35 (fun x => [(V.ptr (.par 0) []), e_TRr x]) fun l => (d_TRr (at_ l 1))
def tt_f35 (x : X_f35) : TT Tryz.prog R_f35 :=
 (.ret (0, (TRr.mk x.AA x.s x.most true)))
theorem sd_f35 (x : X_f35) : (tt_f35 x).AH :=
 TT.sR
def D_f35 : AU X_f35 R_f35 := .of tt_f35
def con_f35 : A3 Tryz.prog :=
 BS 103 J_f35 S_f35 D_f35 1 1 [.any] (lk mxk lbn sd_f35)
abbrev X_fg : Type := TEv × TFa
abbrev R_fg : Type := TFa
def J_fg : A8 Tryz.prog :=
 BD Tryz.prog Tryz.f57 131 [(3, 3), (48, 1), (101, 1)] [(8, [.close (.loc 27 0), .close (.loc 23 0)]), (9, [.close (.loc 27 0), .close (.loc 23 0)]), (10, [.close (.loc 42 0), .close (.loc 38 0), .close (.loc 27 0), .close (.loc 23 0)]), (11, [.close (.loc 42 0), .close (.loc 38 0), .close (.loc 27 0), .close (.loc 23 0)]), (12, [.close (.loc 56 0), .close (.loc 52 0), .close (.loc 42 0), .close (.loc 38 0), .close (.loc 27 0), .close (.loc 23 0)]), (13, [.close (.loc 56 0), .close (.loc 52 0), .close (.loc 42 0), .close (.loc 38 0), .close (.loc 27 0), .close (.loc 23 0)]), (14, [.close (.loc 73 0), .close (.loc 69 0), .close (.loc 56 0), .close (.loc 52 0), .close (.loc 42 0), .close (.loc 38 0), .close (.loc 27 0), .close (.loc 23 0)]), (15, [.close (.loc 73 0), .close (.loc 69 0), .close (.loc 56 0), .close (.loc 52 0), .close (.loc 42 0), .close (.loc 38 0), .close (.loc 27 0), .close (.loc 23 0)]), (16, [.close (.loc 73 0), .close (.loc 69 0), .close (.loc 56 0), .close (.loc 52 0), .close (.loc 42 0), .close (.loc 38 0), .close (.loc 27 0), .close (.loc 23 0)]), (17, [.close (.loc 73 0), .close (.loc 69 0), .close (.loc 56 0), .close (.loc 52 0), .close (.loc 42 0), .close (.loc 38 0), .close (.loc 27 0), .close (.loc 23 0)]), (18, [.close (.loc 73 0), .close (.loc 69 0), .close (.loc 56 0), .close (.loc 52 0), .close (.loc 42 0), .close (.loc 38 0), .close (.loc 27 0), .close (.loc 23 0)]), (19, [.close (.loc 73 0), .close (.loc 69 0), .close (.loc 56 0), .close (.loc 52 0), .close (.loc 42 0), .close (.loc 38 0), .close (.loc 27 0), .close (.loc 23 0)]), (20, [.close (.loc 73 0), .close (.loc 69 0), .close (.loc 56 0), .close (.loc 52 0), .close (.loc 42 0), .close (.loc 38 0), .close (.loc 27 0), .close (.loc 23 0)])] [(7, [.IQ (.par 0) [.CC 2 3] 23]), (9, [.IQ (.par 0) [.CC 2 3] 38]), (11, [.IQ (.par 0) [.CC 2 3] 52]), (13, [.IQ (.par 0) [.CC 2 3] 69]), (20, [.IQ (.par 0) [.CC 1 2] 105, .IQ (.par 0) [.CC 1 2] 120])] [.close (.loc 120 0), .close (.loc 105 0), .close (.loc 73 0), .close (.loc 69 0), .close (.loc 56 0), .close (.loc 52 0), .close (.loc 42 0), .close (.loc 38 0), .close (.loc 27 0), .close (.loc 23 0)] [] [sh_TFa] [con_f17, con_f2d, con_f35, con_f2n, con_f2o, con_f19, con_f2a] R_fg [(0, [⟨.loc 23 0, .par 0, [.CC 2 3], none, none⟩, ⟨.loc 38 0, .par 0, [.CC 2 3], none, none⟩, ⟨.loc 52 0, .par 0, [.CC 2 3], none, none⟩, ⟨.loc 69 0, .par 0, [.CC 2 3], none, none⟩, ⟨.loc 105 0, .par 0, [.CC 1 2], none, none⟩, ⟨.loc 120 0, .par 0, [.CC 1 2], none, none⟩]), (20, [⟨.loc 23 0, .par 0, [.CC 2 3], none, none⟩, ⟨.loc 38 0, .par 0, [.CC 2 3], none, none⟩, ⟨.loc 52 0, .par 0, [.CC 2 3], none, none⟩, ⟨.loc 69 0, .par 0, [.CC 2 3], none, none⟩, ⟨.loc 105 0, .par 0, [.CC 1 2], none, none⟩, ⟨.loc 120 0, .par 0, [.CC 1 2], none, none⟩])] fun y => [V.B9 (V.unit), e_TFa y]
def S_fg : AM :=
 Ae Tryz.f57 2 1 X_fg (fun x => [(V.ptr (.par 0) []), e_TEv x.1, e_TFa x.2]) fun l => (d_TEv (at_ l 1), d_TFa (at_ l 2))
structure X_fg_20 where
 DB : TEv
 v_5 : Int
 Ah : TFa
def S_fg_20 : AM :=
 Ad Tryz.f57 20 (an [0, 3, 5]) [sh_TFa] [] X_fg_20 (fun x => [(V.ptr (.par 0) []), (C2 e_TEv) x.DB, (V.int .u64) x.v_5, e_TFa x.Ah]) fun l => ⟨(C3 d_TEv) (at_ l 1), dI (at_ l 2), d_TFa (at_ l 3)⟩
def tt_fg_20 (x : X_fg_20) : TT Tryz.prog R_fg :=
 (.need (Az x.DB.Thread x.Ah.p.AB.n) <|
 (.need (Az x.DB.Thread x.Ah.threads.n) <|
 (.need ((Nat.beq x.Ah.threads.n x.Ah.threads.n) && true) <|
 (.call con_f2a ((x.Ah.p.AB.get (Int.toNat x.DB.Thread)), ((x.Ah.threads.get ((0 : Nat) + (Int.toNat x.DB.Thread))), (x.DB, x.v_5))) fun (y1 : R_f2a) =>
 (.need (Az x.DB.Thread x.Ah.threads.n) <|
 (.need ((Nat.beq x.Ah.threads.n x.Ah.threads.n) && true) <|
 (.need ((true && true) && (Nat.beq x.Ah.threads.n x.Ah.threads.n)) <|
 (.ret (TFa.mk x.Ah.p (Sl.mk x.Ah.threads.nil x.Ah.threads.n (fun i2 => (TTh.mk (cond (Nat.beq i2 ((0 : Nat) + (Int.toNat x.DB.Thread))) y1.fst.At (x.Ah.threads.get i2).At) (cond (Nat.beq i2 ((0 : Nat) + (Int.toNat x.DB.Thread))) y1.fst.Phase (x.Ah.threads.get i2).Phase) (cond (Nat.beq i2 ((0 : Nat) + (Int.toNat x.DB.Thread))) y1.fst.Ring (x.Ah.threads.get i2).Ring) (cond (Nat.beq i2 ((0 : Nat) + (Int.toNat x.DB.Thread))) y1.fst.Status (x.Ah.threads.get i2).Status) (cond (Nat.beq i2 ((0 : Nat) + (Int.toNat x.DB.Thread))) y1.fst.AG (x.Ah.threads.get i2).AG) (fun i3 => (cond (Nat.beq i2 ((0 : Nat) + (Int.toNat x.DB.Thread))) (y1.fst.Af i3) ((x.Ah.threads.get i2).Af i3))) (Sl.mk (cond (Nat.beq i2 ((0 : Nat) + (Int.toNat x.DB.Thread))) y1.fst.Seen.nil (x.Ah.threads.get i2).Seen.nil) (cond (Nat.beq i2 ((0 : Nat) + (Int.toNat x.DB.Thread))) y1.fst.Seen.n (x.Ah.threads.get i2).Seen.n) (fun i3 => (cond (Nat.beq i2 ((0 : Nat) + (Int.toNat x.DB.Thread))) (y1.fst.Seen.get i3) ((x.Ah.threads.get i2).Seen.get i3))))))) x.Ah.rings x.Ah.now x.Ah.reads x.Ah.ended)))))))))
theorem sd_fg_20 (x : X_fg_20) : (tt_fg_20 x).AH :=
 (TT.sN (TT.sN (TT.sN (TT.sC fun _ => (TT.sN (TT.sN (TT.sN TT.sR)))))))
def D_fg_20 : AU X_fg_20 R_fg := .of tt_fg_20
theorem ok_fg_20 : AW J_fg S_fg_20 D_fg_20 :=
 lk mxk lbn sd_fg_20
def tt_fg (x : X_fg) : TT Tryz.prog R_fg :=
 (.call con_f17 (x.fst.Thread, x.snd) fun (y1 : R_f17) =>
 (.ite (AX x.fst.Kind 1)
 (.call con_f2d (x.fst.Ring, x.snd) fun (y2 : R_f2d) =>
 (.jump S_fg_20 D_fg_20 (X_fg_20.mk x.fst 0 y2)))
 (.ite (AX x.fst.Kind 2)
 (.need (Az x.fst.Ring x.snd.rings.n) <|
 (.need (((Nat.beq x.snd.rings.n x.snd.rings.n) && true) && (!(x.snd.rings.get ((0 : Nat) + (Int.toNat x.fst.Ring))).nil)) <|
 (.call con_f2n (x.fst.AG, (y1.Value, (x.snd.rings.get ((0 : Nat) + (Int.toNat x.fst.Ring))).x)) fun (y2 : R_f2n) =>
 (.need ((true && true) && ((Nat.beq x.snd.rings.n x.snd.rings.n) && (Nat.blt ((0 : Nat) + (Int.toNat x.fst.Ring)) x.snd.rings.n))) <|
 (.side ((fun v : Nat → V => v = v) (fun i3 => (cond (Nat.beq i3 ((0 : Nat) + (Int.toNat x.fst.Ring))) (V.ptr (Id.loc 27 0) List.nil) (V.Ai (x.snd.rings.get i3).nil (V.cons (V.cons (V.int IntKind.u64 (x.snd.rings.get i3).x.AA.tail) (V.cons (V.A1 41 1 (x.snd.rings.get i3).x.AA.AD.nil (x.snd.rings.get i3).x.AA.AD.n (fun i4 => (V.int IntKind.u64 ((x.snd.rings.get i3).x.AA.AD.get i4)))) V.unit)) (V.cons (V.Ai (x.snd.rings.get i3).x.s.nil (V.cons (V.A1 206 3 (x.snd.rings.get i3).x.s.x.l.nil (x.snd.rings.get i3).x.s.x.l.n (fun i4 => (V.cons (V.int IntKind.u64 ((x.snd.rings.get i3).x.s.x.l.get i4).AO) (V.cons (V.int IntKind.u64 ((x.snd.rings.get i3).x.s.x.l.get i4).Value) (V.cons (V.int IntKind.i64 ((x.snd.rings.get i3).x.s.x.l.get i4).Left) V.unit))))) (V.cons (V.int IntKind.i64 (x.snd.rings.get i3).x.s.x.AV) V.unit))) (V.cons (V.int IntKind.u64 (x.snd.rings.get i3).x.most) (V.cons (V.bool (x.snd.rings.get i3).x.closed) V.unit)))))))) <|
 (.need ((true && true) && (Nat.beq x.snd.rings.n x.snd.rings.n)) <|
 (.jump S_fg_20 D_fg_20 (X_fg_20.mk x.fst 0 (TFa.mk x.snd.p x.snd.threads (Sl.mk x.snd.rings.nil x.snd.rings.n (fun i3 => (Bx.mk (cond (Nat.beq i3 ((0 : Nat) + (Int.toNat x.fst.Ring))) false (x.snd.rings.get i3).nil) (TRr.mk (TRc.mk (cond (Nat.beq i3 ((0 : Nat) + (Int.toNat x.fst.Ring))) y2.snd.AA.tail (x.snd.rings.get i3).x.AA.tail) (Sl.mk (cond (Nat.beq i3 ((0 : Nat) + (Int.toNat x.fst.Ring))) y2.snd.AA.AD.nil (x.snd.rings.get i3).x.AA.AD.nil) (cond (Nat.beq i3 ((0 : Nat) + (Int.toNat x.fst.Ring))) y2.snd.AA.AD.n (x.snd.rings.get i3).x.AA.AD.n) (fun i4 => (cond (Nat.beq i3 ((0 : Nat) + (Int.toNat x.fst.Ring))) (y2.snd.AA.AD.get i4) ((x.snd.rings.get i3).x.AA.AD.get i4))))) (Bx.mk (cond (Nat.beq i3 ((0 : Nat) + (Int.toNat x.fst.Ring))) y2.snd.s.nil (x.snd.rings.get i3).x.s.nil) (TSs.mk (Sl.mk (cond (Nat.beq i3 ((0 : Nat) + (Int.toNat x.fst.Ring))) y2.snd.s.x.l.nil (x.snd.rings.get i3).x.s.x.l.nil) (cond (Nat.beq i3 ((0 : Nat) + (Int.toNat x.fst.Ring))) y2.snd.s.x.l.n (x.snd.rings.get i3).x.s.x.l.n) (fun i4 => (TSo.mk (cond (Nat.beq i3 ((0 : Nat) + (Int.toNat x.fst.Ring))) (y2.snd.s.x.l.get i4).AO ((x.snd.rings.get i3).x.s.x.l.get i4).AO) (cond (Nat.beq i3 ((0 : Nat) + (Int.toNat x.fst.Ring))) (y2.snd.s.x.l.get i4).Value ((x.snd.rings.get i3).x.s.x.l.get i4).Value) (cond (Nat.beq i3 ((0 : Nat) + (Int.toNat x.fst.Ring))) (y2.snd.s.x.l.get i4).Left ((x.snd.rings.get i3).x.s.x.l.get i4).Left)))) (cond (Nat.beq i3 ((0 : Nat) + (Int.toNat x.fst.Ring))) y2.snd.s.x.AV (x.snd.rings.get i3).x.s.x.AV))) (cond (Nat.beq i3 ((0 : Nat) + (Int.toNat x.fst.Ring))) y2.snd.most (x.snd.rings.get i3).x.most) (cond (Nat.beq i3 ((0 : Nat) + (Int.toNat x.fst.Ring))) y2.snd.closed (x.snd.rings.get i3).x.closed))))) x.snd.now x.snd.reads x.snd.ended)))))))))
 (.ite (AX x.fst.Kind 3)
 (.need (Az x.fst.Ring x.snd.rings.n) <|
 (.need (((Nat.beq x.snd.rings.n x.snd.rings.n) && true) && (!(x.snd.rings.get ((0 : Nat) + (Int.toNat x.fst.Ring))).nil)) <|
 (.call con_f19 (y1.Reader, (x.snd.rings.get ((0 : Nat) + (Int.toNat x.fst.Ring))).x) fun (y2 : R_f19) =>
 (.need ((true && true) && ((Nat.beq x.snd.rings.n x.snd.rings.n) && (Nat.blt ((0 : Nat) + (Int.toNat x.fst.Ring)) x.snd.rings.n))) <|
 (.side ((fun v : Nat → V => v = v) (fun i3 => (cond (Nat.beq i3 ((0 : Nat) + (Int.toNat x.fst.Ring))) (V.ptr (Id.loc 42 0) List.nil) (V.Ai (x.snd.rings.get i3).nil (V.cons (V.cons (V.int IntKind.u64 (x.snd.rings.get i3).x.AA.tail) (V.cons (V.A1 41 1 (x.snd.rings.get i3).x.AA.AD.nil (x.snd.rings.get i3).x.AA.AD.n (fun i4 => (V.int IntKind.u64 ((x.snd.rings.get i3).x.AA.AD.get i4)))) V.unit)) (V.cons (V.Ai (x.snd.rings.get i3).x.s.nil (V.cons (V.A1 206 3 (x.snd.rings.get i3).x.s.x.l.nil (x.snd.rings.get i3).x.s.x.l.n (fun i4 => (V.cons (V.int IntKind.u64 ((x.snd.rings.get i3).x.s.x.l.get i4).AO) (V.cons (V.int IntKind.u64 ((x.snd.rings.get i3).x.s.x.l.get i4).Value) (V.cons (V.int IntKind.i64 ((x.snd.rings.get i3).x.s.x.l.get i4).Left) V.unit))))) (V.cons (V.int IntKind.i64 (x.snd.rings.get i3).x.s.x.AV) V.unit))) (V.cons (V.int IntKind.u64 (x.snd.rings.get i3).x.most) (V.cons (V.bool (x.snd.rings.get i3).x.closed) V.unit)))))))) <|
 (.need ((true && true) && (Nat.beq x.snd.rings.n x.snd.rings.n)) <|
 (.jump S_fg_20 D_fg_20 (X_fg_20.mk x.fst 0 (TFa.mk x.snd.p x.snd.threads (Sl.mk x.snd.rings.nil x.snd.rings.n (fun i3 => (Bx.mk (cond (Nat.beq i3 ((0 : Nat) + (Int.toNat x.fst.Ring))) false (x.snd.rings.get i3).nil) (TRr.mk (TRc.mk (cond (Nat.beq i3 ((0 : Nat) + (Int.toNat x.fst.Ring))) y2.snd.snd.AA.tail (x.snd.rings.get i3).x.AA.tail) (Sl.mk (cond (Nat.beq i3 ((0 : Nat) + (Int.toNat x.fst.Ring))) y2.snd.snd.AA.AD.nil (x.snd.rings.get i3).x.AA.AD.nil) (cond (Nat.beq i3 ((0 : Nat) + (Int.toNat x.fst.Ring))) y2.snd.snd.AA.AD.n (x.snd.rings.get i3).x.AA.AD.n) (fun i4 => (cond (Nat.beq i3 ((0 : Nat) + (Int.toNat x.fst.Ring))) (y2.snd.snd.AA.AD.get i4) ((x.snd.rings.get i3).x.AA.AD.get i4))))) (Bx.mk (cond (Nat.beq i3 ((0 : Nat) + (Int.toNat x.fst.Ring))) y2.snd.snd.s.nil (x.snd.rings.get i3).x.s.nil) (TSs.mk (Sl.mk (cond (Nat.beq i3 ((0 : Nat) + (Int.toNat x.fst.Ring))) y2.snd.snd.s.x.l.nil (x.snd.rings.get i3).x.s.x.l.nil) (cond (Nat.beq i3 ((0 : Nat) + (Int.toNat x.fst.Ring))) y2.snd.snd.s.x.l.n (x.snd.rings.get i3).x.s.x.l.n) (fun i4 => (TSo.mk (cond (Nat.beq i3 ((0 : Nat) + (Int.toNat x.fst.Ring))) (y2.snd.snd.s.x.l.get i4).AO ((x.snd.rings.get i3).x.s.x.l.get i4).AO) (cond (Nat.beq i3 ((0 : Nat) + (Int.toNat x.fst.Ring))) (y2.snd.snd.s.x.l.get i4).Value ((x.snd.rings.get i3).x.s.x.l.get i4).Value) (cond (Nat.beq i3 ((0 : Nat) + (Int.toNat x.fst.Ring))) (y2.snd.snd.s.x.l.get i4).Left ((x.snd.rings.get i3).x.s.x.l.get i4).Left)))) (cond (Nat.beq i3 ((0 : Nat) + (Int.toNat x.fst.Ring))) y2.snd.snd.s.x.AV (x.snd.rings.get i3).x.s.x.AV))) (cond (Nat.beq i3 ((0 : Nat) + (Int.toNat x.fst.Ring))) y2.snd.snd.most (x.snd.rings.get i3).x.most) (cond (Nat.beq i3 ((0 : Nat) + (Int.toNat x.fst.Ring))) y2.snd.snd.closed (x.snd.rings.get i3).x.closed))))) x.snd.now x.snd.reads x.snd.ended)))))))))
 (.ite (AX x.fst.Kind 4)
 (.need (Az x.fst.Ring x.snd.rings.n) <|
 (.need (((Nat.beq x.snd.rings.n x.snd.rings.n) && true) && (!(x.snd.rings.get ((0 : Nat) + (Int.toNat x.fst.Ring))).nil)) <|
 (.call con_f2o (y1.Reader, (x.fst.AG, (x.snd.rings.get ((0 : Nat) + (Int.toNat x.fst.Ring))).x)) fun (y2 : R_f2o) =>
 (.need ((true && true) && ((Nat.beq x.snd.rings.n x.snd.rings.n) && (Nat.blt ((0 : Nat) + (Int.toNat x.fst.Ring)) x.snd.rings.n))) <|
 (.side ((fun v : Nat → V => v = v) (fun i3 => (cond (Nat.beq i3 ((0 : Nat) + (Int.toNat x.fst.Ring))) (V.ptr (Id.loc 56 0) List.nil) (V.Ai (x.snd.rings.get i3).nil (V.cons (V.cons (V.int IntKind.u64 (x.snd.rings.get i3).x.AA.tail) (V.cons (V.A1 41 1 (x.snd.rings.get i3).x.AA.AD.nil (x.snd.rings.get i3).x.AA.AD.n (fun i4 => (V.int IntKind.u64 ((x.snd.rings.get i3).x.AA.AD.get i4)))) V.unit)) (V.cons (V.Ai (x.snd.rings.get i3).x.s.nil (V.cons (V.A1 206 3 (x.snd.rings.get i3).x.s.x.l.nil (x.snd.rings.get i3).x.s.x.l.n (fun i4 => (V.cons (V.int IntKind.u64 ((x.snd.rings.get i3).x.s.x.l.get i4).AO) (V.cons (V.int IntKind.u64 ((x.snd.rings.get i3).x.s.x.l.get i4).Value) (V.cons (V.int IntKind.i64 ((x.snd.rings.get i3).x.s.x.l.get i4).Left) V.unit))))) (V.cons (V.int IntKind.i64 (x.snd.rings.get i3).x.s.x.AV) V.unit))) (V.cons (V.int IntKind.u64 (x.snd.rings.get i3).x.most) (V.cons (V.bool (x.snd.rings.get i3).x.closed) V.unit)))))))) <|
 (.need ((true && true) && (Nat.beq x.snd.rings.n x.snd.rings.n)) <|
 (.jump S_fg_20 D_fg_20 (X_fg_20.mk x.fst y2.fst (TFa.mk x.snd.p x.snd.threads (Sl.mk x.snd.rings.nil x.snd.rings.n (fun i3 => (Bx.mk (cond (Nat.beq i3 ((0 : Nat) + (Int.toNat x.fst.Ring))) false (x.snd.rings.get i3).nil) (TRr.mk (TRc.mk (cond (Nat.beq i3 ((0 : Nat) + (Int.toNat x.fst.Ring))) y2.snd.snd.AA.tail (x.snd.rings.get i3).x.AA.tail) (Sl.mk (cond (Nat.beq i3 ((0 : Nat) + (Int.toNat x.fst.Ring))) y2.snd.snd.AA.AD.nil (x.snd.rings.get i3).x.AA.AD.nil) (cond (Nat.beq i3 ((0 : Nat) + (Int.toNat x.fst.Ring))) y2.snd.snd.AA.AD.n (x.snd.rings.get i3).x.AA.AD.n) (fun i4 => (cond (Nat.beq i3 ((0 : Nat) + (Int.toNat x.fst.Ring))) (y2.snd.snd.AA.AD.get i4) ((x.snd.rings.get i3).x.AA.AD.get i4))))) (Bx.mk (cond (Nat.beq i3 ((0 : Nat) + (Int.toNat x.fst.Ring))) y2.snd.snd.s.nil (x.snd.rings.get i3).x.s.nil) (TSs.mk (Sl.mk (cond (Nat.beq i3 ((0 : Nat) + (Int.toNat x.fst.Ring))) y2.snd.snd.s.x.l.nil (x.snd.rings.get i3).x.s.x.l.nil) (cond (Nat.beq i3 ((0 : Nat) + (Int.toNat x.fst.Ring))) y2.snd.snd.s.x.l.n (x.snd.rings.get i3).x.s.x.l.n) (fun i4 => (TSo.mk (cond (Nat.beq i3 ((0 : Nat) + (Int.toNat x.fst.Ring))) (y2.snd.snd.s.x.l.get i4).AO ((x.snd.rings.get i3).x.s.x.l.get i4).AO) (cond (Nat.beq i3 ((0 : Nat) + (Int.toNat x.fst.Ring))) (y2.snd.snd.s.x.l.get i4).Value ((x.snd.rings.get i3).x.s.x.l.get i4).Value) (cond (Nat.beq i3 ((0 : Nat) + (Int.toNat x.fst.Ring))) (y2.snd.snd.s.x.l.get i4).Left ((x.snd.rings.get i3).x.s.x.l.get i4).Left)))) (cond (Nat.beq i3 ((0 : Nat) + (Int.toNat x.fst.Ring))) y2.snd.snd.s.x.AV (x.snd.rings.get i3).x.s.x.AV))) (cond (Nat.beq i3 ((0 : Nat) + (Int.toNat x.fst.Ring))) y2.snd.snd.most (x.snd.rings.get i3).x.most) (cond (Nat.beq i3 ((0 : Nat) + (Int.toNat x.fst.Ring))) y2.snd.snd.closed (x.snd.rings.get i3).x.closed))))) x.snd.now x.snd.reads x.snd.ended)))))))))
 (.ite (AX x.fst.Kind 13)
 (.need (Az x.fst.Ring x.snd.rings.n) <|
 (.need (((Nat.beq x.snd.rings.n x.snd.rings.n) && true) && (!(x.snd.rings.get ((0 : Nat) + (Int.toNat x.fst.Ring))).nil)) <|
 (.call con_f35 (x.snd.rings.get ((0 : Nat) + (Int.toNat x.fst.Ring))).x fun (y2 : R_f35) =>
 (.need ((true && true) && ((Nat.beq x.snd.rings.n x.snd.rings.n) && (Nat.blt ((0 : Nat) + (Int.toNat x.fst.Ring)) x.snd.rings.n))) <|
 (.side ((fun v : Nat → V => v = v) (fun i3 => (cond (Nat.beq i3 ((0 : Nat) + (Int.toNat x.fst.Ring))) (V.ptr (Id.loc 73 0) List.nil) (V.Ai (x.snd.rings.get i3).nil (V.cons (V.cons (V.int IntKind.u64 (x.snd.rings.get i3).x.AA.tail) (V.cons (V.A1 41 1 (x.snd.rings.get i3).x.AA.AD.nil (x.snd.rings.get i3).x.AA.AD.n (fun i4 => (V.int IntKind.u64 ((x.snd.rings.get i3).x.AA.AD.get i4)))) V.unit)) (V.cons (V.Ai (x.snd.rings.get i3).x.s.nil (V.cons (V.A1 206 3 (x.snd.rings.get i3).x.s.x.l.nil (x.snd.rings.get i3).x.s.x.l.n (fun i4 => (V.cons (V.int IntKind.u64 ((x.snd.rings.get i3).x.s.x.l.get i4).AO) (V.cons (V.int IntKind.u64 ((x.snd.rings.get i3).x.s.x.l.get i4).Value) (V.cons (V.int IntKind.i64 ((x.snd.rings.get i3).x.s.x.l.get i4).Left) V.unit))))) (V.cons (V.int IntKind.i64 (x.snd.rings.get i3).x.s.x.AV) V.unit))) (V.cons (V.int IntKind.u64 (x.snd.rings.get i3).x.most) (V.cons (V.bool (x.snd.rings.get i3).x.closed) V.unit)))))))) <|
 (.need ((true && true) && (Nat.beq x.snd.rings.n x.snd.rings.n)) <|
 (.jump S_fg_20 D_fg_20 (X_fg_20.mk x.fst 0 (TFa.mk x.snd.p x.snd.threads (Sl.mk x.snd.rings.nil x.snd.rings.n (fun i3 => (Bx.mk (cond (Nat.beq i3 ((0 : Nat) + (Int.toNat x.fst.Ring))) false (x.snd.rings.get i3).nil) (TRr.mk (TRc.mk (cond (Nat.beq i3 ((0 : Nat) + (Int.toNat x.fst.Ring))) y2.snd.AA.tail (x.snd.rings.get i3).x.AA.tail) (Sl.mk (cond (Nat.beq i3 ((0 : Nat) + (Int.toNat x.fst.Ring))) y2.snd.AA.AD.nil (x.snd.rings.get i3).x.AA.AD.nil) (cond (Nat.beq i3 ((0 : Nat) + (Int.toNat x.fst.Ring))) y2.snd.AA.AD.n (x.snd.rings.get i3).x.AA.AD.n) (fun i4 => (cond (Nat.beq i3 ((0 : Nat) + (Int.toNat x.fst.Ring))) (y2.snd.AA.AD.get i4) ((x.snd.rings.get i3).x.AA.AD.get i4))))) (Bx.mk (cond (Nat.beq i3 ((0 : Nat) + (Int.toNat x.fst.Ring))) y2.snd.s.nil (x.snd.rings.get i3).x.s.nil) (TSs.mk (Sl.mk (cond (Nat.beq i3 ((0 : Nat) + (Int.toNat x.fst.Ring))) y2.snd.s.x.l.nil (x.snd.rings.get i3).x.s.x.l.nil) (cond (Nat.beq i3 ((0 : Nat) + (Int.toNat x.fst.Ring))) y2.snd.s.x.l.n (x.snd.rings.get i3).x.s.x.l.n) (fun i4 => (TSo.mk (cond (Nat.beq i3 ((0 : Nat) + (Int.toNat x.fst.Ring))) (y2.snd.s.x.l.get i4).AO ((x.snd.rings.get i3).x.s.x.l.get i4).AO) (cond (Nat.beq i3 ((0 : Nat) + (Int.toNat x.fst.Ring))) (y2.snd.s.x.l.get i4).Value ((x.snd.rings.get i3).x.s.x.l.get i4).Value) (cond (Nat.beq i3 ((0 : Nat) + (Int.toNat x.fst.Ring))) (y2.snd.s.x.l.get i4).Left ((x.snd.rings.get i3).x.s.x.l.get i4).Left)))) (cond (Nat.beq i3 ((0 : Nat) + (Int.toNat x.fst.Ring))) y2.snd.s.x.AV (x.snd.rings.get i3).x.s.x.AV))) (cond (Nat.beq i3 ((0 : Nat) + (Int.toNat x.fst.Ring))) y2.snd.most (x.snd.rings.get i3).x.most) (cond (Nat.beq i3 ((0 : Nat) + (Int.toNat x.fst.Ring))) y2.snd.closed (x.snd.rings.get i3).x.closed))))) x.snd.now x.snd.reads x.snd.ended)))))))))
 (.ite (AX x.fst.Kind 8)
 (.jump S_fg_20 D_fg_20 (X_fg_20.mk x.fst 0 (TFa.mk x.snd.p x.snd.threads x.snd.rings (imax x.snd.now x.fst.Value) x.snd.reads x.snd.ended)))
 (.ite (AX x.fst.Kind 10)
 (.jump S_fg_20 D_fg_20 (X_fg_20.mk x.fst 0 (TFa.mk x.snd.p x.snd.threads x.snd.rings x.snd.now (IntKind.u64.wrap (x.snd.reads + 1)) x.snd.ended)))
 (.ite (AX x.fst.Kind 11)
 (.jump S_fg_20 D_fg_20 (X_fg_20.mk x.fst 0 (TFa.mk x.snd.p x.snd.threads x.snd.rings x.snd.now x.snd.reads true)))
 (.jump S_fg_20 D_fg_20 (X_fg_20.mk x.fst 0 x.snd)))))))))))
theorem sd_fg (x : X_fg) : (tt_fg x).AH :=
 (TT.sC fun _ => (TT.sI (TT.sC fun _ => TT.sJ) (TT.sI (TT.sN (TT.sN (TT.sC fun _ => (TT.sN (TT.sS rfl (TT.sN TT.sJ)))))) (TT.sI (TT.sN (TT.sN (TT.sC fun _ => (TT.sN (TT.sS rfl (TT.sN TT.sJ)))))) (TT.sI (TT.sN (TT.sN (TT.sC fun _ => (TT.sN (TT.sS rfl (TT.sN TT.sJ)))))) (TT.sI (TT.sN (TT.sN (TT.sC fun _ => (TT.sN (TT.sS rfl (TT.sN TT.sJ)))))) (TT.sI TT.sJ (TT.sI TT.sJ (TT.sI TT.sJ TT.sJ)))))))))
def D_fg : AU X_fg R_fg := .of tt_fg
def con_fg : A3 Tryz.prog :=
 BS 57 J_fg S_fg D_fg 2 1 [.any, .any] (lk mxk (lbc ok_fg_20 rfl lbn) sd_fg)
abbrev X_f2v : Type := TEv × TFa
abbrev R_f2v : Type := Int × TFa
def J_f2v : A8 Tryz.prog :=
 BD Tryz.prog Tryz.f27 19 [(3, 3)] [] [] [] [.any] [sh_TFa] [con_fd, con_fg, con_f14] R_f2v [] fun y => [(V.int .i64) y.1, e_TFa y.2]
def S_f2v : AM :=
 Ae Tryz.f27 2 1 X_f2v (fun x => [(V.ptr (.par 0) []), e_TEv x.1, e_TFa x.2]) fun l => (d_TEv (at_ l 1), d_TFa (at_ l 2))
def tt_f2v (x : X_f2v) : TT Tryz.prog R_f2v :=
 (.call con_f14 (x.fst, x.snd) fun (y1 : R_f14) =>
 (.ite (!(AX y1 0))
 (.ret (y1, x.snd))
 (.call con_fd (x.fst, x.snd) fun (y2 : R_fd) =>
 (.ite (!y2)
 (.ret (11, x.snd))
 (.call con_fg (x.fst, x.snd) fun (y3 : R_fg) =>
 (.ret (0, y3)))))))
theorem sd_f2v (x : X_f2v) : (tt_f2v x).AH :=
 (TT.sC fun _ => (TT.sI TT.sR (TT.sC fun _ => (TT.sI TT.sR (TT.sC fun _ => TT.sR)))))
def D_f2v : AU X_f2v R_f2v := .of tt_f2v
def con_f2v : A3 Tryz.prog :=
 BS 27 J_f2v S_f2v D_f2v 2 1 [.any, .any] (lk mxk lbn sd_f2v)
abbrev Dsl_TEv : Type := (Sl TEv)
def esl_TEv : Dsl_TEv → V := (Kn none 5 e_TEv)
def dsl_TEv : V → Dsl_TEv := (K5 d_TEv)
def hsl_TEv : Sh := (.sl none 5 (e_TEv (d_TEv .undef)))
abbrev X_ft : Type := TPg × (Sl TEv)
abbrev R_ft : Type := (Bx TFa) × Int × Int
def J_ft : A8 Tryz.prog :=
 BD Tryz.prog Tryz.f37 40 [(2, 3), (11, 1), (34, 1), (37, 1), (38, 1)] [(6, [.open_ 7])] [] [.shut 4] [hbox_TFa, .any, .any] [] [con_f2v, con_f1j] R_ft [] fun y => [V.B9 (V.cons (ebox_TFa y.1) (V.cons ((V.int .i64) y.2.1) (V.cons ((V.int .i64) y.2.2) (V.unit))))]
def S_ft : AM :=
 Ae Tryz.f37 2 0 X_ft (fun x => [e_TPg x.1, esl_TEv x.2]) fun l => (d_TPg (at_ l 0), dsl_TEv (at_ l 1))
structure X_ft_7 where
 FV : (Sl TEv)
 IK : (Sl TEv)
 SX : Int
 Fl : Int
 Gn : TFa
def S_ft_7 : AM :=
 Ad Tryz.f37 7 [(1, hsl_TEv), (7, .any), (23, hsl_TEv), (24, .any), (25, .any)] [] [(.loc 7 1, sh_TFa)] X_ft_7 (fun x => [esl_TEv x.FV, (V.ptr (.loc 7 1) []), esl_TEv x.IK, (V.int .i64) x.SX, (V.int .i64) x.Fl, e_TFa x.Gn]) fun l => ⟨dsl_TEv (at_ l 0), dsl_TEv (at_ l 2), dI (at_ l 3), dI (at_ l 4), d_TFa (at_ l 5)⟩
structure X_ft_12 where
 FV : (Sl TEv)
 Gn : TFa
def S_ft_12 : AM :=
 Ad Tryz.f37 12 [(1, hsl_TEv), (7, .any)] [] [(.loc 7 1, sh_TFa)] X_ft_12 (fun x => [esl_TEv x.FV, (V.ptr (.loc 7 1) []), e_TFa x.Gn]) fun l => ⟨dsl_TEv (at_ l 0), d_TFa (at_ l 2)⟩
def tt_ft_12 (x : X_ft_12) : TT Tryz.prog R_ft :=
 (.ret ((Bx.mk false x.Gn), (((x.FV.n : Nat) : Int), 0)))
theorem sd_ft_12 (x : X_ft_12) : (tt_ft_12 x).AH :=
 TT.sR
def D_ft_12 : AU X_ft_12 R_ft := .of tt_ft_12
theorem ok_ft_12 : AW J_ft S_ft_12 D_ft_12 :=
 lk mxk lbn sd_ft_12
def tt_ft_7 (D_ft_7 : AU X_ft_7 R_ft) (x : X_ft_7) : TT Tryz.prog R_ft :=
 (.ite (BR x.Fl x.SX)
 (.need (Az x.Fl x.IK.n) <|
 (.call con_f2v ((x.IK.get (Int.toNat x.Fl)), x.Gn) fun (y2 : R_f2v) =>
 (.ite (!(AX y2.fst 0))
 (.ret ((Bx.mk false y2.snd), (x.Fl, 0)))
 (.jump S_ft_7 D_ft_7 (X_ft_7.mk x.FV x.IK x.SX (IntKind.i64.wrap (x.Fl + 1)) y2.snd)))))
 (.jump S_ft_12 D_ft_12 (X_ft_12.mk x.FV x.Gn)))
theorem sd_ft_7 (D_ft_7 : AU X_ft_7 R_ft) (x : X_ft_7) : (tt_ft_7 D_ft_7 x).AH :=
 (TT.sI (TT.sN (TT.sC fun _ => (TT.sI TT.sR TT.sJ))) TT.sJ)
def D_ft_7 : AU X_ft_7 R_ft := AU.loop tt_ft_7
theorem ok_ft_7 : AW J_ft S_ft_7 D_ft_7 :=
 A2 fun D_ft_7 h_7 => lk mxk (lbc h_7 rfl (lbc ok_ft_12 rfl lbn)) (sd_ft_7 D_ft_7)
def tt_ft (x : X_ft) : TT Tryz.prog R_ft :=
 (.call con_f1j x.fst fun (y1 : R_f1j) =>
 (.ite (!(AX y1.snd 0))
 (.ret ((Bx.mk true (TFa.mk (TPg.mk (Sl.mk true 0 (fun _i2 => (TRg.mk 0 0 0))) (Sl.mk true 0 (fun _i2 => (Sl.mk true 0 (fun _i3 => (TIn.mk 0 0 0 0 0 0)))))) (Sl.mk true 0 (fun _i2 => (TTh.mk 0 0 0 0 0 (fun _i3 => (0 : Int)) (Sl.mk true 0 (fun _i3 => (0 : Int)))))) (Sl.mk true 0 (fun _i2 => (Bx.mk true (TRr.mk (TRc.mk 0 (Sl.mk true 0 (fun _i3 => (0 : Int)))) (Bx.mk true (TSs.mk (Sl.mk true 0 (fun _i3 => (TSo.mk 0 0 0))) 0)) 0 false)))) 0 0 false)), (0, 1)))
 (.ite (BR 65536 ((x.snd.n : Nat) : Int))
 (.ret ((Bx.mk true (TFa.mk (TPg.mk (Sl.mk true 0 (fun _i2 => (TRg.mk 0 0 0))) (Sl.mk true 0 (fun _i2 => (Sl.mk true 0 (fun _i3 => (TIn.mk 0 0 0 0 0 0)))))) (Sl.mk true 0 (fun _i2 => (TTh.mk 0 0 0 0 0 (fun _i3 => (0 : Int)) (Sl.mk true 0 (fun _i3 => (0 : Int)))))) (Sl.mk true 0 (fun _i2 => (Bx.mk true (TRr.mk (TRc.mk 0 (Sl.mk true 0 (fun _i3 => (0 : Int)))) (Bx.mk true (TSs.mk (Sl.mk true 0 (fun _i3 => (TSo.mk 0 0 0))) 0)) 0 false)))) 0 0 false)), (0, 4)))
 (.need (!y1.fst.nil) <|
 (.jump S_ft_7 D_ft_7 (X_ft_7.mk x.snd x.snd ((x.snd.n : Nat) : Int) 0 y1.fst.x))))))
theorem sd_ft (x : X_ft) : (tt_ft x).AH :=
 (TT.sC fun _ => (TT.sI TT.sR (TT.sI TT.sR (TT.sN TT.sJ))))
def D_ft : AU X_ft R_ft := .of tt_ft
def con_ft : A3 Tryz.prog :=
 BS 37 J_ft S_ft D_ft 2 0 [sh_TPg, hsl_TEv] (lk mxk (lbc ok_ft_12 rfl (lbc ok_ft_7 rfl lbn)) sd_ft)
abbrev X_f34 : Type := TPg × (Sl TEv)
abbrev R_f34 : Type := Int × Int
def J_f34 : A8 Tryz.prog :=
 BD Tryz.prog Tryz.f13 18 [(2, 3), (9, 1), (11, 1)] [] [] [] [.any, .any] [] [con_ft] R_f34 [] fun y => [V.B9 (V.cons ((V.int .i64) y.1) (V.cons ((V.int .i64) y.2) (V.unit)))]
def S_f34 : AM :=
 Ae Tryz.f13 2 0 X_f34 (fun x => [e_TPg x.1, esl_TEv x.2]) fun l => (d_TPg (at_ l 0), dsl_TEv (at_ l 1))
def tt_f34 (x : X_f34) : TT Tryz.prog R_f34 :=
 (.call con_ft (x.fst, x.snd) fun (y1 : R_ft) =>
 (.ret y1.snd))
theorem sd_f34 (x : X_f34) : (tt_f34 x).AH :=
 (TT.sC fun _ => TT.sR)
def D_f34 : AU X_f34 R_f34 := .of tt_f34
def con_f34 : A3 Tryz.prog :=
 BS 13 J_f34 S_f34 D_f34 2 0 [sh_TPg, hsl_TEv] (lk mxk lbn sd_f34)
abbrev X_f3s : Type := TPg × (Sl TEv)
abbrev R_f3s : Type := (Bx TFa) × Int
def J_f3s : A8 Tryz.prog :=
 BD Tryz.prog Tryz.f39 26 [(2, 3), (9, 1), (20, 1), (24, 1)] [] [] [.shut 4] [hbox_TFa, .any] [] [con_ft] R_f3s [] fun y => [V.B9 (V.cons (ebox_TFa y.1) (V.cons ((V.int .i64) y.2) (V.unit)))]
def S_f3s : AM :=
 Ae Tryz.f39 2 0 X_f3s (fun x => [e_TPg x.1, esl_TEv x.2]) fun l => (d_TPg (at_ l 0), dsl_TEv (at_ l 1))
def tt_f3s (x : X_f3s) : TT Tryz.prog R_f3s :=
 (.call con_ft (x.fst, x.snd) fun (y1 : R_ft) =>
 (.ite (AX y1.snd.snd 0)
 (.ite (BR y1.snd.fst ((x.snd.n : Nat) : Int))
 (.ret ((Bx.mk y1.fst.nil y1.fst.x), 11))
 (.ret ((Bx.mk y1.fst.nil y1.fst.x), y1.snd.snd)))
 (.ret ((Bx.mk y1.fst.nil y1.fst.x), y1.snd.snd))))
theorem sd_f3s (x : X_f3s) : (tt_f3s x).AH :=
 (TT.sC fun _ => (TT.sI (TT.sI TT.sR TT.sR) TT.sR))
def D_f3s : AU X_f3s R_f3s := .of tt_f3s
def con_f3s : A3 Tryz.prog :=
 BS 39 J_f3s S_f3s D_f3s 2 0 [sh_TPg, hsl_TEv] (lk mxk lbn sd_f3s)
abbrev X_f1t : Type := Int × TFa
abbrev R_f1t : Type := TAk × Int
abbrev RR_f1t : Type := TAk × Int × TFa
abbrev p_f1t (y : RR_f1t) : TFa := y.2.2
abbrev w_f1t (x : X_f1t) : TFa := x.2
def J_f1t : A8 Tryz.prog :=
 BD Tryz.prog Tryz.f64 19 [] [] [] [] [.any, .any] [sh_TFa] [con_f17, con_f1f] RR_f1t [] fun y => [V.B9 (V.cons (e_TAk y.1) (V.cons ((V.int .i64) y.2.1) (V.unit))), e_TFa y.2.2]
def S_f1t : AM :=
 Ae Tryz.f64 2 1 X_f1t (fun x => [(V.ptr (.par 0) []), (V.int .i64) x.1, e_TFa x.2]) fun l => (dI (at_ l 1), d_TFa (at_ l 2))
def tt_f1t (x : X_f1t) : TT Tryz.prog RR_f1t :=
 (.call con_f1f (x.fst, x.snd) fun (y1 : R_f1f) =>
 (.ite (!y1)
 (.ret ((TAk.mk 0 0 0 0 0 0), (5, x.snd)))
 (.call con_f17 (x.fst, x.snd) fun (y2 : R_f17) =>
 (.ret (y2, (0, x.snd))))))
theorem sd_f1t (x : X_f1t) : (tt_f1t x).AH :=
 (TT.sC fun _ => (TT.sI TT.sR (TT.sC fun _ => TT.sR)))
theorem roT_f1t (x : X_f1t) : TT.Ro p_f1t (w_f1t x) (tt_f1t x) :=
 (TT.rC fun _ => (TT.rI (TT.rR rfl) (TT.rC fun _ => (TT.rR rfl))))
def D_f1t : AU X_f1t R_f1t := .ro (.of tt_f1t) (fun y => (y.1, y.2.1)) (fun y x => (y.1, y.2, x.2)) fun x y h => congrArg (fun o => (y.1, y.2.1, o)) (roT_f1t x y h)
def con_f1t : A3 Tryz.prog :=
 C7 64 J_f1t S_f1t (.of tt_f1t) D_f1t (fun y x => (y.1, y.2, x.2)) (fun y => V.B9 (V.cons (e_TAk y.1) (V.cons ((V.int .i64) y.2) (V.unit)))) 2 1 [.any, .any] (lk mxk lbn sd_f1t) (fun x => ⟨(nu_e_TFa : ∀ y, (e_TFa y).CU) (x.2), trivial⟩)
abbrev X_fh : Type := Int × TFa
abbrev R_fh : Type := (Bx TRr)
abbrev RR_fh : Type := (Bx TRr) × TFa
abbrev p_fh (y : RR_fh) : TFa := y.2
abbrev w_fh (x : X_fh) : TFa := x.2
def J_fh : A8 Tryz.prog :=
 BD Tryz.prog Tryz.f81 43 [(22, 1), (42, 1)] [(2, [.back (.loc 18 0)]), (3, [.back (.loc 18 0)]), (4, [.back (.loc 37 0), .back (.loc 34 0), .back (.loc 18 0)])] [(3, [.IQ (.par 0) [.CC 2 3] 34])] [.back (.loc 37 0), .back (.loc 34 0), .back (.loc 18 0), .shut 4] [hbox_TRr] [sh_TFa] [con_fb, con_f1s] RR_fh [(0, [⟨.loc 34 0, .par 0, [.CC 2 3], none, none⟩]), (3, [⟨.loc 34 0, .par 0, [.CC 2 3], none, none⟩])] fun y => [ebox_TRr y.1, e_TFa y.2]
def S_fh : AM :=
 Ae Tryz.f81 2 1 X_fh (fun x => [(V.ptr (.par 0) []), (V.int .i64) x.1, e_TFa x.2]) fun l => (dI (at_ l 1), d_TFa (at_ l 2))
structure X_fh_3 where
 FM : Int
 Ah : TFa
def S_fh_3 : AM :=
 Ad Tryz.f81 3 (an [0, 1]) [sh_TFa] [] X_fh_3 (fun x => [(V.ptr (.par 0) []), (V.int .i64) x.FM, e_TFa x.Ah]) fun l => ⟨dI (at_ l 1), d_TFa (at_ l 2)⟩
abbrev w_fh_3 (x : X_fh_3) : TFa := (x.Ah)
def tt_fh_3 (x : X_fh_3) : TT Tryz.prog RR_fh :=
 (.need (Az x.FM x.Ah.p.AJ.n) <|
 (.need (Az x.FM x.Ah.rings.n) <|
 (.need (((Nat.beq x.Ah.rings.n x.Ah.rings.n) && true) && (!(x.Ah.rings.get ((0 : Nat) + (Int.toNat x.FM))).nil)) <|
 (.call con_f1s (x.Ah.rings.get ((0 : Nat) + (Int.toNat x.FM))).x fun (y1 : R_f1s) =>
 (.call con_fb ((x.Ah.p.AJ.get (Int.toNat x.FM)), y1) fun (y2 : R_fb) =>
 (.need ((true && true) && (((Nat.beq x.Ah.rings.n x.Ah.rings.n) && (Nat.blt ((0 : Nat) + (Int.toNat x.FM)) x.Ah.rings.n)) && (!(x.Ah.rings.get ((0 : Nat) + (Int.toNat x.FM))).nil))) <|
 (.side (((fun v : Nat → V => v = v) (fun i3 => (cond (Nat.beq i3 ((0 : Nat) + (Int.toNat x.FM))) (V.ptr (Id.loc 37 0) List.nil) (V.Ai (x.Ah.rings.get i3).nil (V.cons (V.cons (V.int IntKind.u64 (x.Ah.rings.get i3).x.AA.tail) (V.cons (V.A1 41 1 (x.Ah.rings.get i3).x.AA.AD.nil (x.Ah.rings.get i3).x.AA.AD.n (fun i4 => (V.int IntKind.u64 ((x.Ah.rings.get i3).x.AA.AD.get i4)))) V.unit)) (V.cons (V.Ai (x.Ah.rings.get i3).x.s.nil (V.cons (V.A1 206 3 (x.Ah.rings.get i3).x.s.x.l.nil (x.Ah.rings.get i3).x.s.x.l.n (fun i4 => (V.cons (V.int IntKind.u64 ((x.Ah.rings.get i3).x.s.x.l.get i4).AO) (V.cons (V.int IntKind.u64 ((x.Ah.rings.get i3).x.s.x.l.get i4).Value) (V.cons (V.int IntKind.i64 ((x.Ah.rings.get i3).x.s.x.l.get i4).Left) V.unit))))) (V.cons (V.int IntKind.i64 (x.Ah.rings.get i3).x.s.x.AV) V.unit))) (V.cons (V.int IntKind.u64 (x.Ah.rings.get i3).x.most) (V.cons (V.bool (x.Ah.rings.get i3).x.closed) V.unit)))))))) ∧ (((fun v : V => v = v) (V.cons (V.cons (V.int IntKind.u64 (x.Ah.rings.get ((0 : Nat) + (Int.toNat x.FM))).x.AA.tail) (V.cons (V.A1 41 1 (x.Ah.rings.get ((0 : Nat) + (Int.toNat x.FM))).x.AA.AD.nil (x.Ah.rings.get ((0 : Nat) + (Int.toNat x.FM))).x.AA.AD.n (fun i3 => (V.int IntKind.u64 ((x.Ah.rings.get ((0 : Nat) + (Int.toNat x.FM))).x.AA.AD.get i3)))) V.unit)) (V.cons (V.Ai (x.Ah.rings.get ((0 : Nat) + (Int.toNat x.FM))).x.s.nil (V.cons (V.A1 206 3 (x.Ah.rings.get ((0 : Nat) + (Int.toNat x.FM))).x.s.x.l.nil (x.Ah.rings.get ((0 : Nat) + (Int.toNat x.FM))).x.s.x.l.n (fun i3 => (V.cons (V.int IntKind.u64 ((x.Ah.rings.get ((0 : Nat) + (Int.toNat x.FM))).x.s.x.l.get i3).AO) (V.cons (V.int IntKind.u64 ((x.Ah.rings.get ((0 : Nat) + (Int.toNat x.FM))).x.s.x.l.get i3).Value) (V.cons (V.int IntKind.i64 ((x.Ah.rings.get ((0 : Nat) + (Int.toNat x.FM))).x.s.x.l.get i3).Left) V.unit))))) (V.cons (V.int IntKind.i64 (x.Ah.rings.get ((0 : Nat) + (Int.toNat x.FM))).x.s.x.AV) V.unit))) (V.cons (V.int IntKind.u64 (x.Ah.rings.get ((0 : Nat) + (Int.toNat x.FM))).x.most) (V.cons (V.bool (x.Ah.rings.get ((0 : Nat) + (Int.toNat x.FM))).x.closed) V.unit))))) ∧ ((fun v : V => v = v) (V.Ai (x.Ah.rings.get ((0 : Nat) + (Int.toNat x.FM))).nil (V.cons (V.cons (V.int IntKind.u64 (x.Ah.rings.get ((0 : Nat) + (Int.toNat x.FM))).x.AA.tail) (V.cons (V.A1 41 1 (x.Ah.rings.get ((0 : Nat) + (Int.toNat x.FM))).x.AA.AD.nil (x.Ah.rings.get ((0 : Nat) + (Int.toNat x.FM))).x.AA.AD.n (fun i3 => (V.int IntKind.u64 ((x.Ah.rings.get ((0 : Nat) + (Int.toNat x.FM))).x.AA.AD.get i3)))) V.unit)) (V.cons (V.Ai (x.Ah.rings.get ((0 : Nat) + (Int.toNat x.FM))).x.s.nil (V.cons (V.A1 206 3 (x.Ah.rings.get ((0 : Nat) + (Int.toNat x.FM))).x.s.x.l.nil (x.Ah.rings.get ((0 : Nat) + (Int.toNat x.FM))).x.s.x.l.n (fun i3 => (V.cons (V.int IntKind.u64 ((x.Ah.rings.get ((0 : Nat) + (Int.toNat x.FM))).x.s.x.l.get i3).AO) (V.cons (V.int IntKind.u64 ((x.Ah.rings.get ((0 : Nat) + (Int.toNat x.FM))).x.s.x.l.get i3).Value) (V.cons (V.int IntKind.i64 ((x.Ah.rings.get ((0 : Nat) + (Int.toNat x.FM))).x.s.x.l.get i3).Left) V.unit))))) (V.cons (V.int IntKind.i64 (x.Ah.rings.get ((0 : Nat) + (Int.toNat x.FM))).x.s.x.AV) V.unit))) (V.cons (V.int IntKind.u64 (x.Ah.rings.get ((0 : Nat) + (Int.toNat x.FM))).x.most) (V.cons (V.bool (x.Ah.rings.get ((0 : Nat) + (Int.toNat x.FM))).x.closed) V.unit)))))))) <|
 (.need ((true && true) && (Nat.beq x.Ah.rings.n x.Ah.rings.n)) <|
 (.ret (y2.fst, x.Ah))))))))))
theorem sd_fh_3 (x : X_fh_3) : (tt_fh_3 x).AH :=
 (TT.sN (TT.sN (TT.sN (TT.sC fun _ => (TT.sC fun _ => (TT.sN (TT.sS ⟨rfl, ⟨rfl, rfl⟩⟩ (TT.sN TT.sR))))))))
theorem roT_fh_3 (x : X_fh_3) : TT.Ro p_fh (w_fh_3 x) (tt_fh_3 x) :=
 (TT.rN (TT.rN (TT.rN (TT.rC fun _ => (TT.rC fun _ => (TT.rN (TT.rS (TT.rN (TT.rR rfl)))))))))
def D_fh_3 : AU X_fh_3 RR_fh := .of tt_fh_3
theorem ok_fh_3 : AW J_fh S_fh_3 D_fh_3 :=
 lk mxk lbn sd_fh_3
theorem ro_fh_3 : ∀ x y, D_fh_3.rel x y → p_fh y = w_fh_3 x :=
 roT_fh_3 
def tt_fh (x : X_fh) : TT Tryz.prog RR_fh :=
 (.ite (BR x.fst 0)
 (.ret ((Bx.mk true (TRr.mk (TRc.mk 0 (Sl.mk true 0 (fun _i1 => (0 : Int)))) (Bx.mk true (TSs.mk (Sl.mk true 0 (fun _i1 => (TSo.mk 0 0 0))) 0)) 0 false)), x.snd))
 (.ite (BW ((x.snd.rings.n : Nat) : Int) x.fst)
 (.need ((true && true) && (Nat.beq x.snd.rings.n x.snd.rings.n)) <|
 (.ret ((Bx.mk true (TRr.mk (TRc.mk 0 (Sl.mk true 0 (fun _i1 => (0 : Int)))) (Bx.mk true (TSs.mk (Sl.mk true 0 (fun _i1 => (TSo.mk 0 0 0))) 0)) 0 false)), x.snd)))
 (.need ((true && true) && (Nat.beq x.snd.rings.n x.snd.rings.n)) <|
 (.jump S_fh_3 D_fh_3 (X_fh_3.mk x.fst x.snd)))))
theorem sd_fh (x : X_fh) : (tt_fh x).AH :=
 (TT.sI TT.sR (TT.sI (TT.sN TT.sR) (TT.sN TT.sJ)))
theorem roT_fh (x : X_fh) : TT.Ro p_fh (w_fh x) (tt_fh x) :=
 (TT.rI (TT.rR rfl) (TT.rI (TT.rN (TT.rR rfl)) (TT.rN (TT.rJ (ro_fh_3 _)))))
def D_fh : AU X_fh R_fh := .ro (.of tt_fh) (fun y => (y.1)) (fun y x => (y, x.2)) fun x y h => congrArg (fun o => (y.1, o)) (roT_fh x y h)
def con_fh : A3 Tryz.prog :=
 C7 81 J_fh S_fh (.of tt_fh) D_fh (fun y x => (y, x.2)) (fun y => ebox_TRr y) 2 1 [.any, .any] (lk mxk (lbc ok_fh_3 rfl lbn) sd_fh) (fun x => ⟨(nu_e_TFa : ∀ y, (e_TFa y).CU) (x.2), trivial⟩)
abbrev X_f1e : Type := TFa
abbrev R_f1e : Type := Int
abbrev RR_f1e : Type := Int × TFa
abbrev p_f1e (y : RR_f1e) : TFa := y.2
abbrev w_f1e (x : X_f1e) : TFa := x
def J_f1e : A8 Tryz.prog :=
 BD Tryz.prog Tryz.f70 9 [] [] [] [] [.any] [sh_TFa] [] RR_f1e [] fun y => [(V.int .u64) y.1, e_TFa y.2]
def S_f1e : AM :=
 Ae Tryz.f70 1 1 X_f1e (fun x => [(V.ptr (.par 0) []), e_TFa x]) fun l => (d_TFa (at_ l 1))
def tt_f1e (x : X_f1e) : TT Tryz.prog RR_f1e :=
 (.ret (x.now, x))
theorem sd_f1e (x : X_f1e) : (tt_f1e x).AH :=
 TT.sR
theorem roT_f1e (x : X_f1e) : TT.Ro p_f1e (w_f1e x) (tt_f1e x) :=
 (TT.rR rfl)
def D_f1e : AU X_f1e R_f1e := .ro (.of tt_f1e) (fun y => (y.1)) (fun y x => (y, x)) fun x y h => congrArg (fun o => (y.1, o)) (roT_f1e x y h)
def con_f1e : A3 Tryz.prog :=
 C7 70 J_f1e S_f1e (.of tt_f1e) D_f1e (fun y x => (y, x)) (fun y => (V.int .u64) y) 1 1 [.any] (lk mxk lbn sd_f1e) (fun x => ⟨(nu_e_TFa : ∀ y, (e_TFa y).CU) (x), trivial⟩)
abbrev X_f2p : Type := Unit
abbrev R_f2p : Type := Int
def J_f2p : A8 Tryz.prog :=
 BD Tryz.prog Tryz.f82 10 [(5, 1)] [] [] [] [.any] [] [] R_f2p [] fun y => [(V.int .u64) y]
def S_f2p : AM :=
 Ae Tryz.f82 1 0 X_f2p (fun _x => [V.B4]) fun _l => ()
def tt_f2p (_x : X_f2p) : TT Tryz.prog R_f2p :=
 (.ret 0)
theorem sd_f2p (x : X_f2p) : (tt_f2p x).AH :=
 TT.sR
def D_f2p : AU X_f2p R_f2p := .of tt_f2p
def con_f2p : A3 Tryz.prog :=
 BS 82 J_f2p S_f2p D_f2p 1 0 [.any] (lk mxk lbn sd_f2p)
abbrev X_f18 : Type := Int
abbrev R_f18 : Type := Int
def J_f18 : A8 Tryz.prog :=
 BD Tryz.prog Tryz.f83 23 [(15, 1)] [] [] [.close (.loc 19 0)] [.any] [] [con_fv] R_f18 [] fun y => [(V.int .u64) y]
def S_f18 : AM :=
 Ae Tryz.f83 2 0 X_f18 (fun x => [V.B4, (V.int .i64) x]) fun l => (dI (at_ l 1))
structure X_f18_3 where
 EL : Int
def S_f18_3 : AM :=
 Ad Tryz.f83 3 (an [0, 1]) [] [] X_f18_3 (fun x => [V.B4, (V.int .i64) x.EL]) fun l => ⟨dI (at_ l 1)⟩
def tt_f18_3 (_x : X_f18_3) : TT Tryz.prog R_f18 :=
 .fail
theorem sd_f18_3 (x : X_f18_3) : (tt_f18_3 x).AH :=
 TT.OO
def D_f18_3 : AU X_f18_3 R_f18 := .of tt_f18_3
theorem ok_f18_3 : AW J_f18 S_f18_3 D_f18_3 :=
 lk mxk lbn sd_f18_3
def tt_f18 (_x : X_f18) : TT Tryz.prog R_f18 :=
 (.ret 0)
theorem sd_f18 (x : X_f18) : (tt_f18 x).AH :=
 TT.sR
def D_f18 : AU X_f18 R_f18 := .of tt_f18
def con_f18 : A3 Tryz.prog :=
 BS 83 J_f18 S_f18 D_f18 2 0 [.any, .any] (lk mxk (lbc ok_f18_3 rfl lbn) sd_f18)
abbrev X_f13 : Type := Int × Int × TFa
abbrev R_f13 : Type := TEv
abbrev RR_f13 : Type := TEv × TFa
abbrev p_f13 (y : RR_f13) : TFa := y.2
abbrev w_f13 (x : X_f13) : TFa := x.2.2
def J_f13 : A8 Tryz.prog :=
 BD Tryz.prog Tryz.f44 75 [(11, 1), (46, 1), (57, 1)] [(6, [.P6 10, .open_ 10]), (9, [.open_ 10])] [] [] [.any] [sh_TFa] [con_f2x, con_f1t, con_f1e, con_fh, con_fp, con_f1p, con_f18, con_f2p] RR_f13 [] fun y => [e_TEv y.1, e_TFa y.2]
def S_f13 : AM :=
 Ae Tryz.f44 3 1 X_f13 (fun x => [(V.ptr (.par 0) []), (V.int .i64) x.1, (V.int .i64) x.2.1, e_TFa x.2.2]) fun l => (dI (at_ l 1), dI (at_ l 2), d_TFa (at_ l 3))
structure X_f13_5 where
 Ce : Int
 Ah : TFa
 HI : TEv
 G1 : TAk
 CX : TEv
def S_f13_5 : AM :=
 Ad Tryz.f44 5 (an [0, 2, 6, 7, 9]) [sh_TFa] [(.loc 6 0, .any), (.loc 7 0, .any), (.loc 9 0, .any)] X_f13_5 (fun x => [(V.ptr (.par 0) []), (V.int .i64) x.Ce, (V.ptr (.loc 6 0) []), (V.ptr (.loc 7 0) []), (V.ptr (.loc 9 0) []), e_TFa x.Ah, e_TEv x.HI, e_TAk x.G1, e_TEv x.CX]) fun l => ⟨dI (at_ l 1), d_TFa (at_ l 5), d_TEv (at_ l 6), d_TAk (at_ l 7), d_TEv (at_ l 8)⟩
abbrev w_f13_5 (x : X_f13_5) : TFa := (x.Ah)
def tt_f13_5 (x : X_f13_5) : TT Tryz.prog RR_f13 :=
 (.call con_fh (x.G1.Ring, x.Ah) fun (y1 : R_fh) =>
 (.ite y1.nil
 (.ite (AX x.Ce 2)
 (.ret ((TEv.mk x.CX.Thread x.CX.Kind x.CX.Ring x.G1.AG x.CX.Value), x.Ah))
 (.ite (AX x.Ce 4)
 (.ret ((TEv.mk x.CX.Thread x.CX.Kind x.CX.Ring x.G1.AG x.CX.Value), x.Ah))
 (.ite (AX x.Ce 1)
 (.call con_f2p PUnit.unit fun (y2 : R_f2p) =>
 (.ret ((TEv.mk x.CX.Thread x.CX.Kind x.CX.Ring y2 x.CX.Value), x.Ah)))
 (.ite (AX x.Ce 13)
 (.call con_f2p PUnit.unit fun (y2 : R_f2p) =>
 (.ret ((TEv.mk x.CX.Thread x.CX.Kind x.CX.Ring y2 x.CX.Value), x.Ah)))
 (.ite (AX x.Ce 3)
 (.ite (AX x.G1.Kind 2)
 (.call con_f18 x.G1.Reader fun (y2 : R_f18) =>
 (.ret ((TEv.mk x.CX.Thread x.CX.Kind x.CX.Ring y2 x.CX.Value), x.Ah)))
 (.ite (AX x.Ce 8)
 (.call con_f1e x.Ah fun (y2 : R_f1e) =>
 (.ret ((TEv.mk x.CX.Thread x.CX.Kind x.CX.Ring x.CX.AG y2), x.Ah)))
 (.ite (AX x.Ce 12)
 (.ret ((TEv.mk x.CX.Thread x.CX.Kind x.CX.Ring x.CX.AG x.G1.Value), x.Ah))
 (.ret (x.CX, x.Ah)))))
 (.ite (AX x.Ce 8)
 (.call con_f1e x.Ah fun (y2 : R_f1e) =>
 (.ret ((TEv.mk x.CX.Thread x.CX.Kind x.CX.Ring x.CX.AG y2), x.Ah)))
 (.ite (AX x.Ce 12)
 (.ret ((TEv.mk x.CX.Thread x.CX.Kind x.CX.Ring x.CX.AG x.G1.Value), x.Ah))
 (.ret (x.CX, x.Ah)))))))))
 (.need (!y1.nil) <|
 (.ite (AX x.Ce 2)
 (.ret ((TEv.mk x.CX.Thread x.CX.Kind x.CX.Ring x.G1.AG x.CX.Value), x.Ah))
 (.ite (AX x.Ce 4)
 (.ret ((TEv.mk x.CX.Thread x.CX.Kind x.CX.Ring x.G1.AG x.CX.Value), x.Ah))
 (.ite (AX x.Ce 1)
 (.call con_f1p y1.x fun (y2 : R_f1p) =>
 (.ret ((TEv.mk x.CX.Thread x.CX.Kind x.CX.Ring y2 x.CX.Value), x.Ah)))
 (.ite (AX x.Ce 13)
 (.call con_f1p y1.x fun (y2 : R_f1p) =>
 (.ret ((TEv.mk x.CX.Thread x.CX.Kind x.CX.Ring y2 x.CX.Value), x.Ah)))
 (.ite (AX x.Ce 3)
 (.ite (AX x.G1.Kind 2)
 (.call con_fp (x.G1.Reader, y1.x) fun (y2 : R_fp) =>
 (.ret ((TEv.mk x.CX.Thread x.CX.Kind x.CX.Ring y2 x.CX.Value), x.Ah)))
 (.ite (AX x.Ce 8)
 (.call con_f1e x.Ah fun (y2 : R_f1e) =>
 (.ret ((TEv.mk x.CX.Thread x.CX.Kind x.CX.Ring x.CX.AG y2), x.Ah)))
 (.ite (AX x.Ce 12)
 (.ret ((TEv.mk x.CX.Thread x.CX.Kind x.CX.Ring x.CX.AG x.G1.Value), x.Ah))
 (.ret (x.CX, x.Ah)))))
 (.ite (AX x.Ce 8)
 (.call con_f1e x.Ah fun (y2 : R_f1e) =>
 (.ret ((TEv.mk x.CX.Thread x.CX.Kind x.CX.Ring x.CX.AG y2), x.Ah)))
 (.ite (AX x.Ce 12)
 (.ret ((TEv.mk x.CX.Thread x.CX.Kind x.CX.Ring x.CX.AG x.G1.Value), x.Ah))
 (.ret (x.CX, x.Ah))))))))))))
theorem sd_f13_5 (x : X_f13_5) : (tt_f13_5 x).AH :=
 (TT.sC fun _ => (TT.sI (TT.sI TT.sR (TT.sI TT.sR (TT.sI (TT.sC fun _ => TT.sR) (TT.sI (TT.sC fun _ => TT.sR) (TT.sI (TT.sI (TT.sC fun _ => TT.sR) (TT.sI (TT.sC fun _ => TT.sR) (TT.sI TT.sR TT.sR))) (TT.sI (TT.sC fun _ => TT.sR) (TT.sI TT.sR TT.sR))))))) (TT.sN (TT.sI TT.sR (TT.sI TT.sR (TT.sI (TT.sC fun _ => TT.sR) (TT.sI (TT.sC fun _ => TT.sR) (TT.sI (TT.sI (TT.sC fun _ => TT.sR) (TT.sI (TT.sC fun _ => TT.sR) (TT.sI TT.sR TT.sR))) (TT.sI (TT.sC fun _ => TT.sR) (TT.sI TT.sR TT.sR))))))))))
theorem roT_f13_5 (x : X_f13_5) : TT.Ro p_f13 (w_f13_5 x) (tt_f13_5 x) :=
 (TT.rC fun _ => (TT.rI (TT.rI (TT.rR rfl) (TT.rI (TT.rR rfl) (TT.rI (TT.rC fun _ => (TT.rR rfl)) (TT.rI (TT.rC fun _ => (TT.rR rfl)) (TT.rI (TT.rI (TT.rC fun _ => (TT.rR rfl)) (TT.rI (TT.rC fun _ => (TT.rR rfl)) (TT.rI (TT.rR rfl) (TT.rR rfl)))) (TT.rI (TT.rC fun _ => (TT.rR rfl)) (TT.rI (TT.rR rfl) (TT.rR rfl)))))))) (TT.rN (TT.rI (TT.rR rfl) (TT.rI (TT.rR rfl) (TT.rI (TT.rC fun _ => (TT.rR rfl)) (TT.rI (TT.rC fun _ => (TT.rR rfl)) (TT.rI (TT.rI (TT.rC fun _ => (TT.rR rfl)) (TT.rI (TT.rC fun _ => (TT.rR rfl)) (TT.rI (TT.rR rfl) (TT.rR rfl)))) (TT.rI (TT.rC fun _ => (TT.rR rfl)) (TT.rI (TT.rR rfl) (TT.rR rfl)))))))))))
def D_f13_5 : AU X_f13_5 RR_f13 := .of tt_f13_5
theorem ok_f13_5 : AW J_f13 S_f13_5 D_f13_5 :=
 lk mxk lbn sd_f13_5
theorem ro_f13_5 : ∀ x y, D_f13_5.rel x y → p_f13 y = w_f13_5 x :=
 roT_f13_5 
def tt_f13 (x : X_f13) : TT Tryz.prog RR_f13 :=
 (.call con_f1t (x.fst, x.snd.snd) fun (y1 : R_f1t) =>
 (.call con_f2x x.snd.fst fun (y2 : R_f2x) =>
 (.ite y2
 (.jump S_f13_5 D_f13_5 (X_f13_5.mk x.snd.fst x.snd.snd (TEv.mk 0 0 0 0 0) y1.fst (TEv.mk x.fst x.snd.fst y1.fst.Ring 0 0)))
 (.jump S_f13_5 D_f13_5 (X_f13_5.mk x.snd.fst x.snd.snd (TEv.mk 0 0 0 0 0) y1.fst (TEv.mk x.fst x.snd.fst 0 0 0))))))
theorem sd_f13 (x : X_f13) : (tt_f13 x).AH :=
 (TT.sC fun _ => (TT.sC fun _ => (TT.sI TT.sJ TT.sJ)))
theorem roT_f13 (x : X_f13) : TT.Ro p_f13 (w_f13 x) (tt_f13 x) :=
 (TT.rC fun _ => (TT.rC fun _ => (TT.rI (TT.rJ (ro_f13_5 _)) (TT.rJ (ro_f13_5 _)))))
def D_f13 : AU X_f13 R_f13 := .ro (.of tt_f13) (fun y => (y.1)) (fun y x => (y, x.2.2)) fun x y h => congrArg (fun o => (y.1, o)) (roT_f13 x y h)
def con_f13 : A3 Tryz.prog :=
 C7 44 J_f13 S_f13 (.of tt_f13) D_f13 (fun y x => (y, x.2.2)) (fun y => e_TEv y) 3 1 [.any, .any, .any] (lk mxk (lbc ok_f13_5 rfl lbn) sd_f13) (fun x => ⟨(nu_e_TFa : ∀ y, (e_TFa y).CU) (x.2.2), trivial⟩)
abbrev PX : Type := (Sl Int)
def ED : PX → V := (Kn none 1 (V.int .i64))
def F0 : V → PX := (K5 dI)
def EX : Sh := (.sl none 1 (V.int .i64 0))
abbrev Nw : Type := (Sl Int)
def Nc : Nw → V := (Kn (some 3) 1 (V.int .i64))
def Nh : V → Nw := (K5 dI)
def NR : Sh := (.sl (some 3) 1 (V.int .i64 0))
abbrev X_fe : Type := Int × TFa
abbrev R_fe : Type := (Sl Int)
abbrev RR_fe : Type := (Sl Int) × TFa
abbrev p_fe (y : RR_fe) : TFa := y.2
abbrev w_fe (x : X_fe) : TFa := x.2
def J_fe : A8 Tryz.prog :=
 BD Tryz.prog Tryz.f40 22 [(17, 1), (21, 1)] [] [] [.shut 4] [EX] [sh_TFa] [con_fd, con_f13] RR_fe [] fun y => [ED y.1, e_TFa y.2]
def S_fe : AM :=
 Ae Tryz.f40 2 1 X_fe (fun x => [(V.ptr (.par 0) []), (V.int .i64) x.1, e_TFa x.2]) fun l => (dI (at_ l 1), d_TFa (at_ l 2))
structure X_fe_3 where
 TX : Int
 Ra : (Sl Int)
 Fv : Int
 Ah : TFa
def S_fe_3 : AM :=
 Ad Tryz.f40 3 [(0, .any), (1, .any), (5, NR), (6, .any)] [sh_TFa] [] X_fe_3 (fun x => [(V.ptr (.par 0) []), (V.int .i64) x.TX, Nc x.Ra, (V.int .i64) x.Fv, e_TFa x.Ah]) fun l => ⟨dI (at_ l 1), Nh (at_ l 2), dI (at_ l 3), d_TFa (at_ l 4)⟩
structure X_fe_4 where
 TX : Int
 Ra : (Sl Int)
 Fv : Int
 Ah : TFa
def S_fe_4 : AM :=
 Ad Tryz.f40 4 [(0, .any), (1, .any), (5, NR), (6, .any)] [sh_TFa] [] X_fe_4 (fun x => [(V.ptr (.par 0) []), (V.int .i64) x.TX, Nc x.Ra, (V.int .i64) x.Fv, e_TFa x.Ah]) fun l => ⟨dI (at_ l 1), Nh (at_ l 2), dI (at_ l 3), d_TFa (at_ l 4)⟩
abbrev w_fe_3 (x : X_fe_3) : TFa := (x.Ah)
abbrev w_fe_4 (x : X_fe_4) : TFa := (x.Ah)
def tt_fe_4 (D_fe_3 : AU X_fe_3 RR_fe) (x : X_fe_4) : TT Tryz.prog RR_fe :=
 (.jump S_fe_3 D_fe_3 (X_fe_3.mk x.TX x.Ra (IntKind.i64.wrap (x.Fv + 1)) x.Ah))
theorem sd_fe_4 (D_fe_3 : AU X_fe_3 RR_fe) (x : X_fe_4) : (tt_fe_4 D_fe_3 x).AH :=
 TT.sJ
theorem roT_fe_4 (D_fe_3 : AU X_fe_3 RR_fe) (r3 : ∀ x y, D_fe_3.rel x y → p_fe y = w_fe_3 x) (x : X_fe_4) : TT.Ro p_fe (w_fe_4 x) (tt_fe_4 D_fe_3 x) :=
 (TT.rJ (r3 _))
def D_fe_4 (D_fe_3 : AU X_fe_3 RR_fe) : AU X_fe_4 RR_fe := .of (tt_fe_4 D_fe_3)
theorem ok_fe_4 (D_fe_3 : AU X_fe_3 RR_fe) (h_3 : AW J_fe S_fe_3 D_fe_3) : AW J_fe S_fe_4 (D_fe_4 D_fe_3) :=
 lk mxk (lbc h_3 rfl lbn) (sd_fe_4 D_fe_3)
theorem ro_fe_4 (D_fe_3 : AU X_fe_3 RR_fe) (r3 : ∀ x y, D_fe_3.rel x y → p_fe y = w_fe_3 x) : ∀ x y, (D_fe_4 D_fe_3).rel x y → p_fe y = w_fe_4 x :=
 roT_fe_4 D_fe_3 r3
def tt_fe_3 (D_fe_3 : AU X_fe_3 RR_fe) (x : X_fe_3) : TT Tryz.prog RR_fe :=
 (.ite (BW x.Fv 15)
 (.call con_f13 (x.TX, (x.Fv, x.Ah)) fun (y2 : R_f13) =>
 (.call con_fd (y2, x.Ah) fun (y3 : R_fd) =>
 (.ite y3
 (.need (true && (room (x.Ra.n + 1) 8)) <|
 (.jump S_fe_4 (D_fe_4 D_fe_3) (X_fe_4.mk x.TX (Sl.mk (cond (Nat.beq 1 0) x.Ra.nil false) (x.Ra.n + 1) (fun i4 => (cond (Nat.blt i4 x.Ra.n) (x.Ra.get i4) x.Fv))) x.Fv x.Ah)))
 (.jump S_fe_4 (D_fe_4 D_fe_3) (X_fe_4.mk x.TX x.Ra x.Fv x.Ah)))))
 (.ret (x.Ra, x.Ah)))
theorem sd_fe_3 (D_fe_3 : AU X_fe_3 RR_fe) (x : X_fe_3) : (tt_fe_3 D_fe_3 x).AH :=
 (TT.sI (TT.sC fun _ => (TT.sC fun _ => (TT.sI (TT.sN TT.sJ) TT.sJ))) TT.sR)
theorem roT_fe_3 (D_fe_3 : AU X_fe_3 RR_fe) (r3 : ∀ x y, D_fe_3.rel x y → p_fe y = w_fe_3 x) (x : X_fe_3) : TT.Ro p_fe (w_fe_3 x) (tt_fe_3 D_fe_3 x) :=
 (TT.rI (TT.rC fun _ => (TT.rC fun _ => (TT.rI (TT.rN (TT.rJ (ro_fe_4 D_fe_3 r3 _))) (TT.rJ (ro_fe_4 D_fe_3 r3 _))))) (TT.rR rfl))
def D_fe_3 : AU X_fe_3 RR_fe := AU.loop tt_fe_3
theorem ok_fe_3 : AW J_fe S_fe_3 D_fe_3 :=
 A2 fun D_fe_3 h_3 => lk mxk (lbc h_3 rfl (lbc (ok_fe_4 D_fe_3 h_3) rfl lbn)) (sd_fe_3 D_fe_3)
theorem ro_fe_3 : ∀ x y, D_fe_3.rel x y → p_fe y = w_fe_3 x :=
 JY fun D_fe_3 r3 => roT_fe_3 D_fe_3 r3
def tt_fe (x : X_fe) : TT Tryz.prog RR_fe :=
 (.jump S_fe_3 D_fe_3 (X_fe_3.mk x.fst (Sl.mk true 0 (fun _i1 => (0 : Int))) 1 x.snd))
theorem sd_fe (x : X_fe) : (tt_fe x).AH :=
 TT.sJ
theorem roT_fe (x : X_fe) : TT.Ro p_fe (w_fe x) (tt_fe x) :=
 (TT.rJ (ro_fe_3 _))
def D_fe : AU X_fe R_fe := .ro (.of tt_fe) (fun y => (y.1)) (fun y x => (y, x.2)) fun x y h => congrArg (fun o => (y.1, o)) (roT_fe x y h)
def con_fe : A3 Tryz.prog :=
 C7 40 J_fe S_fe (.of tt_fe) D_fe (fun y x => (y, x.2)) (fun y => ED y) 2 1 [.any, .any] (lk mxk (lbc ok_fe_3 rfl lbn) sd_fe) (fun x => ⟨(nu_e_TFa : ∀ y, (e_TFa y).CU) (x.2), trivial⟩)
abbrev X_f2q : Type := TPg × (Sl TEv) × Int
abbrev R_f2q : Type := (Sl Int) × Int
def J_f2q : A8 Tryz.prog :=
 BD Tryz.prog Tryz.f17 31 [(3, 3), (10, 1), (12, 1), (28, 1)] [(6, [.open_ 8])] [] [.shut 6] [EX, .any] [] [con_fe, con_f3s] R_f2q [] fun y => [V.B9 (V.cons (ED y.1) (V.cons ((V.int .i64) y.2) (V.unit)))]
def S_f2q : AM :=
 Ae Tryz.f17 3 0 X_f2q (fun x => [e_TPg x.1, esl_TEv x.2.1, (V.int .i64) x.2.2]) fun l => (d_TPg (at_ l 0), dsl_TEv (at_ l 1), dI (at_ l 2))
structure X_f2q_6 where
 JJ : Int
 n_8 : TFa
def S_f2q_6 : AM :=
 Ad Tryz.f17 6 (an [2, 8]) [] [(.loc 8 1, sh_TFa)] X_f2q_6 (fun x => [(V.int .i64) x.JJ, (V.ptr (.loc 8 1) []), e_TFa x.n_8]) fun l => ⟨dI (at_ l 0), d_TFa (at_ l 2)⟩
def tt_f2q_6 (x : X_f2q_6) : TT Tryz.prog R_f2q :=
 (.call con_fe (x.JJ, x.n_8) fun (y1 : R_fe) =>
 (.ret (y1, 0)))
theorem sd_f2q_6 (x : X_f2q_6) : (tt_f2q_6 x).AH :=
 (TT.sC fun _ => TT.sR)
def D_f2q_6 : AU X_f2q_6 R_f2q := .of tt_f2q_6
theorem ok_f2q_6 : AW J_f2q S_f2q_6 D_f2q_6 :=
 lk mxk lbn sd_f2q_6
def tt_f2q (x : X_f2q) : TT Tryz.prog R_f2q :=
 (.call con_f3s (x.fst, x.snd.fst) fun (y1 : R_f3s) =>
 (.ite (!(AX y1.snd 0))
 (.ret ((Sl.mk true 0 (fun _i2 => (0 : Int))), y1.snd))
 (.ite (BR x.snd.snd 0)
 (.ret ((Sl.mk true 0 (fun _i2 => (0 : Int))), 5))
 (.ite (BW ((x.fst.AB.n : Nat) : Int) x.snd.snd)
 (.ret ((Sl.mk true 0 (fun _i2 => (0 : Int))), 5))
 (.need (!y1.fst.nil) <|
 (.jump S_f2q_6 D_f2q_6 (X_f2q_6.mk x.snd.snd y1.fst.x)))))))
theorem sd_f2q (x : X_f2q) : (tt_f2q x).AH :=
 (TT.sC fun _ => (TT.sI TT.sR (TT.sI TT.sR (TT.sI TT.sR (TT.sN TT.sJ)))))
def D_f2q : AU X_f2q R_f2q := .of tt_f2q
def con_f2q : A3 Tryz.prog :=
 BS 17 J_f2q S_f2q D_f2q 3 0 [sh_TPg, hsl_TEv, .any] (lk mxk (lbc ok_f2q_6 rfl lbn) sd_f2q)
abbrev X_f1q : Type := Int
abbrev R_f1q : Type := ByteArray
def J_f1q : A8 Tryz.prog :=
 BD Tryz.prog Tryz.f164 15 [] [] [] [] [.any] [] [] R_f1q [] fun y => [V.str y]
def S_f1q : AM :=
 Ae Tryz.f164 1 0 X_f1q (fun x => [(V.int .i64) x]) fun l => (dI (at_ l 0))
def tt_f1q (x : X_f1q) : TT Tryz.prog R_f1q :=
 (.ite (BR x 10)
 (.need ((upto (IntKind.i64.wrap (x + 1)) (ByteArray.size (ByteArray.mk #[48, 49, 50, 51, 52, 53, 54, 55, 56, 57, 97, 98, 99, 100, 101, 102, 103, 104, 105, 106, 107, 108, 109, 110, 111, 112, 113, 114, 115, 116, 117, 118, 119, 120, 121, 122]))) && (upto x (Int.toNat (IntKind.i64.wrap (x + 1))))) <|
 (.ret (ByteArray.extract (ByteArray.mk #[48, 49, 50, 51, 52, 53, 54, 55, 56, 57, 97, 98, 99, 100, 101, 102, 103, 104, 105, 106, 107, 108, 109, 110, 111, 112, 113, 114, 115, 116, 117, 118, 119, 120, 121, 122]) (Int.toNat x) (Int.toNat (IntKind.i64.wrap (x + 1))))))
 (.need ((upto (IntKind.i64.wrap ((IntKind.i64.wrap (x * 2)) + 2)) (ByteArray.size (ByteArray.mk #[48, 48, 48, 49, 48, 50, 48, 51, 48, 52, 48, 53, 48, 54, 48, 55, 48, 56, 48, 57, 49, 48, 49, 49, 49, 50, 49, 51, 49, 52, 49, 53, 49, 54, 49, 55, 49, 56, 49, 57, 50, 48, 50, 49, 50, 50, 50, 51, 50, 52, 50, 53, 50, 54, 50, 55, 50, 56, 50, 57, 51, 48, 51, 49, 51, 50, 51, 51, 51, 52, 51, 53, 51, 54, 51, 55, 51, 56, 51, 57, 52, 48, 52, 49, 52, 50, 52, 51, 52, 52, 52, 53, 52, 54, 52, 55, 52, 56, 52, 57, 53, 48, 53, 49, 53, 50, 53, 51, 53, 52, 53, 53, 53, 54, 53, 55, 53, 56, 53, 57, 54, 48, 54, 49, 54, 50, 54, 51, 54, 52, 54, 53, 54, 54, 54, 55, 54, 56, 54, 57, 55, 48, 55, 49, 55, 50, 55, 51, 55, 52, 55, 53, 55, 54, 55, 55, 55, 56, 55, 57, 56, 48, 56, 49, 56, 50, 56, 51, 56, 52, 56, 53, 56, 54, 56, 55, 56, 56, 56, 57, 57, 48, 57, 49, 57, 50, 57, 51, 57, 52, 57, 53, 57, 54, 57, 55, 57, 56, 57, 57]))) && (upto (IntKind.i64.wrap (x * 2)) (Int.toNat (IntKind.i64.wrap ((IntKind.i64.wrap (x * 2)) + 2))))) <|
 (.ret (ByteArray.extract (ByteArray.mk #[48, 48, 48, 49, 48, 50, 48, 51, 48, 52, 48, 53, 48, 54, 48, 55, 48, 56, 48, 57, 49, 48, 49, 49, 49, 50, 49, 51, 49, 52, 49, 53, 49, 54, 49, 55, 49, 56, 49, 57, 50, 48, 50, 49, 50, 50, 50, 51, 50, 52, 50, 53, 50, 54, 50, 55, 50, 56, 50, 57, 51, 48, 51, 49, 51, 50, 51, 51, 51, 52, 51, 53, 51, 54, 51, 55, 51, 56, 51, 57, 52, 48, 52, 49, 52, 50, 52, 51, 52, 52, 52, 53, 52, 54, 52, 55, 52, 56, 52, 57, 53, 48, 53, 49, 53, 50, 53, 51, 53, 52, 53, 53, 53, 54, 53, 55, 53, 56, 53, 57, 54, 48, 54, 49, 54, 50, 54, 51, 54, 52, 54, 53, 54, 54, 54, 55, 54, 56, 54, 57, 55, 48, 55, 49, 55, 50, 55, 51, 55, 52, 55, 53, 55, 54, 55, 55, 55, 56, 55, 57, 56, 48, 56, 49, 56, 50, 56, 51, 56, 52, 56, 53, 56, 54, 56, 55, 56, 56, 56, 57, 57, 48, 57, 49, 57, 50, 57, 51, 57, 52, 57, 53, 57, 54, 57, 55, 57, 56, 57, 57]) (Int.toNat (IntKind.i64.wrap (x * 2))) (Int.toNat (IntKind.i64.wrap ((IntKind.i64.wrap (x * 2)) + 2)))))))
theorem sd_f1q (x : X_f1q) : (tt_f1q x).AH :=
 (TT.sI (TT.sN TT.sR) (TT.sN TT.sR))
def D_f1q : AU X_f1q R_f1q := .of tt_f1q
def con_f1q : A3 Tryz.prog :=
 BS 164 J_f1q S_f1q D_f1q 1 0 [.any] (lk mxk lbn sd_f1q)
abbrev X_f9 : Type := Int × Int
abbrev R_f9 : Type := ByteArray
def J_f9 : A8 Tryz.prog :=
 BD Tryz.prog Tryz.f134 54 [(44, 1)] [] [] [] [.any] [] [con_f1q] R_f9 [] fun y => [V.str y]
def S_f9 : AM :=
 Ae Tryz.f134 2 0 X_f9 (fun x => [(V.int .i64) x.1, (V.int .i64) x.2]) fun l => (dI (at_ l 0), dI (at_ l 1))
structure X_f9_4 where
 TM : Int
def S_f9_4 : AM :=
 Ad Tryz.f134 4 [(0, .any)] [] [] X_f9_4 (fun x => [(V.int .i64) x.TM]) fun l => ⟨dI (at_ l 0)⟩
structure X_f9_8 where
 TM : Int
 u_6 : Int
 A7 : (Nat → Int)
def S_f9_8 : AM :=
 Ad Tryz.f134 8 (an [0, 5, 6]) [] [(.loc 5 0, .any)] X_f9_8 (fun x => [(V.int .i64) x.TM, (V.ptr (.loc 5 0) []), (V.int .u64) x.u_6, (Rr 1 24 (V.int .u8)) x.A7]) fun l => ⟨dI (at_ l 0), dI (at_ l 2), (UM dI) (at_ l 3)⟩
def tt_f9_8 (_x : X_f9_8) : TT Tryz.prog R_f9 :=
 .fail
theorem sd_f9_8 (x : X_f9_8) : (tt_f9_8 x).AH :=
 TT.OO
def D_f9_8 : AU X_f9_8 R_f9 := .of tt_f9_8
theorem ok_f9_8 : AW J_f9 S_f9_8 D_f9_8 :=
 lk mxk lbn sd_f9_8
def tt_f9_4 (x : X_f9_4) : TT Tryz.prog R_f9 :=
 (.ite (BR x.TM 0)
 (.jump S_f9_8 D_f9_8 (X_f9_8.mk x.TM (IntKind.u64.wrap ((0 : Int) - (IntKind.u64.wrap x.TM))) (fun _i1 => (0 : Int))))
 (.jump S_f9_8 D_f9_8 (X_f9_8.mk x.TM (IntKind.u64.wrap x.TM) (fun _i1 => (0 : Int)))))
theorem sd_f9_4 (x : X_f9_4) : (tt_f9_4 x).AH :=
 (TT.sI TT.sJ TT.sJ)
def D_f9_4 : AU X_f9_4 R_f9 := .of tt_f9_4
theorem ok_f9_4 : AW J_f9 S_f9_4 D_f9_4 :=
 lk mxk (lbc ok_f9_8 rfl lbn) sd_f9_4
def tt_f9 (x : X_f9) : TT Tryz.prog R_f9 :=
 (.need (AX x.snd 10) <|
 (.ite (BW 0 x.fst)
 (.ite (BR x.fst 100)
 (.call con_f1q x.fst fun (y1 : R_f1q) =>
 (.ret y1))
 (.jump S_f9_4 D_f9_4 (X_f9_4.mk x.fst)))
 (.jump S_f9_4 D_f9_4 (X_f9_4.mk x.fst))))
theorem sd_f9 (x : X_f9) : (tt_f9 x).AH :=
 (TT.sN (TT.sI (TT.sI (TT.sC fun _ => TT.sR) TT.sJ) TT.sJ))
def D_f9 : AU X_f9 R_f9 := .of tt_f9
def con_f9 : A3 Tryz.prog :=
 BS 134 J_f9 S_f9 D_f9 2 0 [.any, .any] (lk mxk (lbc ok_f9_8 rfl (lbc ok_f9_4 rfl lbn)) sd_f9)
abbrev X_f29 : Type := Int
abbrev R_f29 : Type := ByteArray
def J_f29 : A8 Tryz.prog :=
 BD Tryz.prog Tryz.f87 5 [] [] [] [] [.any] [] [con_f9] R_f29 [] fun y => [V.str y]
def S_f29 : AM :=
 Ae Tryz.f87 1 0 X_f29 (fun x => [(V.int .i64) x]) fun l => (dI (at_ l 0))
def tt_f29 (x : X_f29) : TT Tryz.prog R_f29 :=
 (.call con_f9 (x, 10) fun (y1 : R_f9) =>
 (.ret y1))
theorem sd_f29 (x : X_f29) : (tt_f29 x).AH :=
 (TT.sC fun _ => TT.sR)
def D_f29 : AU X_f29 R_f29 := .of tt_f29
def con_f29 : A3 Tryz.prog :=
 BS 87 J_f29 S_f29 D_f29 1 0 [.any] (lk mxk lbn sd_f29)
abbrev X_f3c : Type := Int
abbrev R_f3c : Type := ByteArray
def J_f3c : A8 Tryz.prog :=
 BD Tryz.prog Tryz.f47 5 [] [] [] [] [.any] [] [con_f29] R_f3c [] fun y => [V.str y]
def S_f3c : AM :=
 Ae Tryz.f47 1 0 X_f3c (fun x => [(V.int .i64) x]) fun l => (dI (at_ l 0))
def tt_f3c (x : X_f3c) : TT Tryz.prog R_f3c :=
 (.call con_f29 x fun (y1 : R_f29) =>
 (.ret y1))
theorem sd_f3c (x : X_f3c) : (tt_f3c x).AH :=
 (TT.sC fun _ => TT.sR)
def D_f3c : AU X_f3c R_f3c := .of tt_f3c
def con_f3c : A3 Tryz.prog :=
 BS 47 J_f3c S_f3c D_f3c 1 0 [.any] (lk mxk lbn sd_f3c)
abbrev X_f1i : Type := Int × Int
abbrev R_f1i : Type := ByteArray
def J_f1i : A8 Tryz.prog :=
 BD Tryz.prog Tryz.f163 32 [(25, 1)] [] [] [] [.any] [] [con_f1q] R_f1i [] fun y => [V.str y]
def S_f1i : AM :=
 Ae Tryz.f163 2 0 X_f1i (fun x => [(V.int .u64) x.1, (V.int .i64) x.2]) fun l => (dI (at_ l 0), dI (at_ l 1))
def tt_f1i (x : X_f1i) : TT Tryz.prog R_f1i :=
 (.need (AX x.snd 10) <|
 (.need (BR x.fst 100) <|
 (.call con_f1q (IntKind.i64.wrap x.fst) fun (y1 : R_f1q) =>
 (.ret y1))))
theorem sd_f1i (x : X_f1i) : (tt_f1i x).AH :=
 (TT.sN (TT.sN (TT.sC fun _ => TT.sR)))
def D_f1i : AU X_f1i R_f1i := .of tt_f1i
def con_f1i : A3 Tryz.prog :=
 BS 163 J_f1i S_f1i D_f1i 2 0 [.any, .any] (lk mxk lbn sd_f1i)
abbrev X_f2h : Type := Int × Int
abbrev R_f2h : Type := ByteArray
def J_f2h : A8 Tryz.prog :=
 BD Tryz.prog Tryz.f132 8 [] [] [] [] [.any] [] [con_f1i] R_f2h [] fun y => [V.str y]
def S_f2h : AM :=
 Ae Tryz.f132 2 0 X_f2h (fun x => [(V.int .u64) x.1, (V.int .i64) x.2]) fun l => (dI (at_ l 0), dI (at_ l 1))
def tt_f2h (x : X_f2h) : TT Tryz.prog R_f2h :=
 (.call con_f1i x fun (y1 : R_f1i) =>
 (.ret y1))
theorem sd_f2h (x : X_f2h) : (tt_f2h x).AH :=
 (TT.sC fun _ => TT.sR)
def D_f2h : AU X_f2h R_f2h := .of tt_f2h
def con_f2h : A3 Tryz.prog :=
 BS 132 J_f2h S_f2h D_f2h 2 0 [.any, .any] (lk mxk lbn sd_f2h)
abbrev X_f4j : Type := (Sl ByteArray) × ByteArray
abbrev R_f4j : Type := ByteArray
def Q7 : Go.Shelf.Ren := ⟨fun | 156 => 48 | 165 => 88 | 166 => 89 | 169 => 90 | 240 => 135 | 241 => 136 | 276 => 168 | 277 => 169 | n => n, fun | 0 => 0 | 3 => 3 | 4 => 4 | 5 => 5 | 9 => 9 | 20 => 20 | 31 => 93 | 37 => 141 | 70 => 140 | 72 => 143 | 75 => 146 | 76 => 147 | 80 => 149 | 127 => 199 | 164 => 234 | n => n, fun n => n⟩
theorem Ss : Go.Proofs.Lays.n156 Tryz.prog Q7 := by
 constructor <;> (intros; kernel_rfl)
theorem S7 : Go.Proofs.Builder.Extra Tryz.prog Q7 := by
 constructor <;> first | (intros; kernel_rfl) | decide | (constructor <;> (intros; kernel_rfl))
def con_f4j : A3 Tryz.prog :=
 To Ss S7 48 (by kernel_rfl) Tryz.f48 (by kernel_rfl) (by kernel_rfl) (by kernel_rfl) (fun l _ => (PK (at_ l 0), dS (at_ l 1))) [L7, .any]
abbrev Nv : Type := (Sl ByteArray)
def GZ : Nv → V := (Kn (some 9) 1 V.str)
def Ga : V → Nv := (K5 dS)
def GY : Sh := (.sl (some 9) 1 (V.str (dS .undef)))
abbrev X_f16 : Type := TEv
abbrev R_f16 : Type := ByteArray
def J_f16 : A8 Tryz.prog :=
 BD Tryz.prog Tryz.f85 40 [(1, 3), (14, 1), (23, 1), (32, 1), (38, 1)] [] [] [] [.any] [] [con_f20, con_f2x, con_f2m, con_f37, con_f2h, con_f3c, con_f4j] R_f16 [] fun y => [V.str y]
def S_f16 : AM :=
 Ae Tryz.f85 1 0 X_f16 (fun x => [e_TEv x]) fun l => (d_TEv (at_ l 0))
structure X_f16_4 where
 Mi : TEv
 N4 : (Sl ByteArray)
def S_f16_4 : AM :=
 Ad Tryz.f85 4 [(1, .any), (3, GY)] [] [] X_f16_4 (fun x => [(C2 e_TEv) x.Mi, GZ x.N4]) fun l => ⟨(C3 d_TEv) (at_ l 0), Ga (at_ l 1)⟩
structure X_f16_6 where
 Mi : TEv
 N4 : (Sl ByteArray)
def S_f16_6 : AM :=
 Ad Tryz.f85 6 [(1, .any), (3, GY)] [] [] X_f16_6 (fun x => [(C2 e_TEv) x.Mi, GZ x.N4]) fun l => ⟨(C3 d_TEv) (at_ l 0), Ga (at_ l 1)⟩
def tt_f16_6 (x : X_f16_6) : TT Tryz.prog R_f16 :=
 (.call con_f37 x.Mi.Kind fun (y1 : R_f37) =>
 (.ite y1
 (.call con_f2h (x.Mi.Value, 10) fun (y2 : R_f2h) =>
 (.need (true && (room (x.N4.n + 1) 16)) <|
 (.call con_f4j ((Sl.mk (cond (Nat.beq 1 0) x.N4.nil false) (x.N4.n + 1) (fun i3 => (cond (Nat.blt i3 x.N4.n) (x.N4.get i3) y2))), (ByteArray.mk #[32])) fun (y3 : R_f4j) =>
 (.ret y3))))
 (.call con_f4j (x.N4, (ByteArray.mk #[32])) fun (y2 : R_f4j) =>
 (.ret y2))))
theorem sd_f16_6 (x : X_f16_6) : (tt_f16_6 x).AH :=
 (TT.sC fun _ => (TT.sI (TT.sC fun _ => (TT.sN (TT.sC fun _ => TT.sR))) (TT.sC fun _ => TT.sR)))
def D_f16_6 : AU X_f16_6 R_f16 := .of tt_f16_6
theorem ok_f16_6 : AW J_f16 S_f16_6 D_f16_6 :=
 lk mxk lbn sd_f16_6
def tt_f16_4 (x : X_f16_4) : TT Tryz.prog R_f16 :=
 (.call con_f2m x.Mi.Kind fun (y1 : R_f2m) =>
 (.ite y1
 (.call con_f2h (x.Mi.AG, 10) fun (y2 : R_f2h) =>
 (.need (true && (room (x.N4.n + 1) 16)) <|
 (.jump S_f16_6 D_f16_6 (X_f16_6.mk x.Mi (Sl.mk (cond (Nat.beq 1 0) x.N4.nil false) (x.N4.n + 1) (fun i3 => (cond (Nat.blt i3 x.N4.n) (x.N4.get i3) y2)))))))
 (.jump S_f16_6 D_f16_6 (X_f16_6.mk x.Mi x.N4))))
theorem sd_f16_4 (x : X_f16_4) : (tt_f16_4 x).AH :=
 (TT.sC fun _ => (TT.sI (TT.sC fun _ => (TT.sN TT.sJ)) TT.sJ))
def D_f16_4 : AU X_f16_4 R_f16 := .of tt_f16_4
theorem ok_f16_4 : AW J_f16 S_f16_4 D_f16_4 :=
 lk mxk (lbc ok_f16_6 rfl lbn) sd_f16_4
def tt_f16 (x : X_f16) : TT Tryz.prog R_f16 :=
 (.call con_f3c x.Thread fun (y1 : R_f3c) =>
 (.call con_f20 x.Kind fun (y2 : R_f20) =>
 (.call con_f2x x.Kind fun (y3 : R_f2x) =>
 (.ite y3
 (.call con_f3c x.Ring fun (y4 : R_f3c) =>
 (.jump S_f16_4 D_f16_4 (X_f16_4.mk x (Sl.mk (cond (Nat.beq 1 0) false false) 3 (fun i5 => (cond (Nat.blt i5 2) (cond (Nat.beq i5 0) y1 y2) y4))))))
 (.jump S_f16_4 D_f16_4 (X_f16_4.mk x (Sl.mk false 2 (fun i4 => (cond (Nat.beq i4 0) y1 y2)))))))))
theorem sd_f16 (x : X_f16) : (tt_f16 x).AH :=
 (TT.sC fun _ => (TT.sC fun _ => (TT.sC fun _ => (TT.sI (TT.sC fun _ => TT.sJ) TT.sJ))))
def D_f16 : AU X_f16 R_f16 := .of tt_f16
def con_f16 : A3 Tryz.prog :=
 BS 85 J_f16 S_f16 D_f16 1 0 [.any] (lk mxk (lbc ok_f16_6 rfl (lbc ok_f16_4 rfl lbn)) sd_f16)
abbrev X_f45 : Type := TEv
abbrev R_f45 : Type := ByteArray × Int
def J_f45 : A8 Tryz.prog :=
 BD Tryz.prog Tryz.f45 9 [(1, 3)] [] [] [] [.any, .any] [] [con_f33, con_f16] R_f45 [] fun y => [V.B9 (V.cons (V.str y.1) (V.cons ((V.int .i64) y.2) (V.unit)))]
def S_f45 : AM :=
 Ae Tryz.f45 1 0 X_f45 (fun x => [e_TEv x]) fun l => (d_TEv (at_ l 0))
def tt_f45 (x : X_f45) : TT Tryz.prog R_f45 :=
 (.call con_f33 x fun (y1 : R_f33) =>
 (.ite (!y1)
 (.ret ((ByteArray.mk #[]), 3))
 (.call con_f16 x fun (y2 : R_f16) =>
 (.ret (y2, 0)))))
theorem sd_f45 (x : X_f45) : (tt_f45 x).AH :=
 (TT.sC fun _ => (TT.sI TT.sR (TT.sC fun _ => TT.sR)))
def D_f45 : AU X_f45 R_f45 := .of tt_f45
def con_f45 : A3 Tryz.prog :=
 BS 45 J_f45 S_f45 D_f45 1 0 [.any] (lk mxk lbn sd_f45)
abbrev X_ff : Type := TPg × (Sl TEv)
abbrev R_ff : Type := ByteArray × Int
def J_ff : A8 Tryz.prog :=
 BD Tryz.prog Tryz.f23 82 [(2, 3), (15, 1), (31, 1), (41, 1), (55, 1), (63, 1), (79, 1)] [(10, [.open_ 6])] [] [] [.any, .any] [] [con_f45, con_f20, con_fe, con_ft, con_f3c, con_f4j] R_ff [] fun y => [V.B9 (V.cons (V.str y.1) (V.cons ((V.int .i64) y.2) (V.unit)))]
def S_ff : AM :=
 Ae Tryz.f23 2 0 X_ff (fun x => [e_TPg x.1, esl_TEv x.2]) fun l => (d_TPg (at_ l 0), dsl_TEv (at_ l 1))
structure X_ff_4 where
 FV : (Sl TEv)
 H4 : TPg
 S1 : (Bx TFa)
 Gn : Int
def S_ff_4 : AM :=
 Ad Tryz.f23 4 [(1, hsl_TEv), (2, .any), (6, hbox_TFa), (7, .any)] [] [] X_ff_4 (fun x => [esl_TEv x.FV, (C2 e_TPg) x.H4, ebox_TFa x.S1, (V.int .i64) x.Gn]) fun l => ⟨dsl_TEv (at_ l 0), (C3 d_TPg) (at_ l 1), dbox_TFa (at_ l 2), dI (at_ l 3)⟩
structure X_ff_7 where
 FV : (Sl TEv)
 H4 : TPg
 S1 : (Bx TFa)
 Gn : Int
 Co : ByteArray
def S_ff_7 : AM :=
 Ad Tryz.f23 7 [(1, hsl_TEv), (2, .any), (6, hbox_TFa), (7, .any), (9, .any)] [] [] X_ff_7 (fun x => [esl_TEv x.FV, (C2 e_TPg) x.H4, ebox_TFa x.S1, (V.int .i64) x.Gn, V.str x.Co]) fun l => ⟨dsl_TEv (at_ l 0), (C3 d_TPg) (at_ l 1), dbox_TFa (at_ l 2), dI (at_ l 3), dS (at_ l 4)⟩
structure X_ff_11 where
 Gn : Int
 Co : ByteArray
 CG : (Sl ByteArray)
 SS : (Sl Int)
 Td : Int
 Q8 : Int
def S_ff_11 : AM :=
 Ad Tryz.f23 11 [(7, .any), (9, .any), (11, GY), (57, EX), (58, .any), (59, .any)] [] [] X_ff_11 (fun x => [(V.int .i64) x.Gn, V.str x.Co, GZ x.CG, ED x.SS, (V.int .i64) x.Td, (V.int .i64) x.Q8]) fun l => ⟨dI (at_ l 0), dS (at_ l 1), Ga (at_ l 2), F0 (at_ l 3), dI (at_ l 4), dI (at_ l 5)⟩
structure X_ff_15 where
 Gn : Int
 Co : ByteArray
 CG : (Sl ByteArray)
def S_ff_15 : AM :=
 Ad Tryz.f23 15 [(7, .any), (9, .any), (11, GY)] [] [] X_ff_15 (fun x => [(V.int .i64) x.Gn, V.str x.Co, GZ x.CG]) fun l => ⟨dI (at_ l 0), dS (at_ l 1), Ga (at_ l 2)⟩
structure X_ff_17 where
 Gn : Int
 Co : ByteArray
 CG : (Sl ByteArray)
def S_ff_17 : AM :=
 Ad Tryz.f23 17 [(7, .any), (9, .any), (11, GY)] [] [] X_ff_17 (fun x => [(V.int .i64) x.Gn, V.str x.Co, GZ x.CG]) fun l => ⟨dI (at_ l 0), dS (at_ l 1), Ga (at_ l 2)⟩
def tt_ff_17 (x : X_ff_17) : TT Tryz.prog R_ff :=
 (.call con_f3c x.Gn fun (y1 : R_f3c) =>
 (.need (decide ((((ByteArray.size y1) + (ByteArray.size (ByteArray.mk #[58, 32]))) ≤ (9223372036854775807 : Nat)))) <|
 (.need (decide ((((ByteArray.size (y1 ++ (ByteArray.mk #[58, 32]))) + (ByteArray.size x.Co)) ≤ (9223372036854775807 : Nat)))) <|
 (.need (decide ((((ByteArray.size ((y1 ++ (ByteArray.mk #[58, 32])) ++ x.Co)) + (ByteArray.size (ByteArray.mk #[44, 32, 110, 111, 116, 32]))) ≤ (9223372036854775807 : Nat)))) <|
 (.call con_f4j (x.CG, (ByteArray.mk #[32])) fun (y2 : R_f4j) =>
 (.need (decide ((((ByteArray.size (((y1 ++ (ByteArray.mk #[58, 32])) ++ x.Co) ++ (ByteArray.mk #[44, 32, 110, 111, 116, 32]))) + (ByteArray.size y2)) ≤ (9223372036854775807 : Nat)))) <|
 (.ret (((((y1 ++ (ByteArray.mk #[58, 32])) ++ x.Co) ++ (ByteArray.mk #[44, 32, 110, 111, 116, 32])) ++ y2), 0))))))))
theorem sd_ff_17 (x : X_ff_17) : (tt_ff_17 x).AH :=
 (TT.sC fun _ => (TT.sN (TT.sN (TT.sN (TT.sC fun _ => (TT.sN TT.sR))))))
def D_ff_17 : AU X_ff_17 R_ff := .of tt_ff_17
theorem ok_ff_17 : AW J_ff S_ff_17 D_ff_17 :=
 lk mxk lbn sd_ff_17
def tt_ff_15 (x : X_ff_15) : TT Tryz.prog R_ff :=
 (.ite (AX ((x.CG.n : Nat) : Int) 0)
 (.jump S_ff_17 D_ff_17 (X_ff_17.mk x.Gn x.Co (Sl.mk false 1 (fun _i1 => (ByteArray.mk #[110, 111, 116, 104, 105, 110, 103])))))
 (.jump S_ff_17 D_ff_17 (X_ff_17.mk x.Gn x.Co x.CG)))
theorem sd_ff_15 (x : X_ff_15) : (tt_ff_15 x).AH :=
 (TT.sI TT.sJ TT.sJ)
def D_ff_15 : AU X_ff_15 R_ff := .of tt_ff_15
theorem ok_ff_15 : AW J_ff S_ff_15 D_ff_15 :=
 lk mxk (lbc ok_ff_17 rfl lbn) sd_ff_15
def tt_ff_11 (D_ff_11 : AU X_ff_11 R_ff) (x : X_ff_11) : TT Tryz.prog R_ff :=
 (.ite (BR x.Q8 x.Td)
 (.need (Az x.Q8 x.SS.n) <|
 (.call con_f20 (x.SS.get (Int.toNat x.Q8)) fun (y2 : R_f20) =>
 (.need (true && (room (x.CG.n + 1) 16)) <|
 (.jump S_ff_11 D_ff_11 (X_ff_11.mk x.Gn x.Co (Sl.mk (cond (Nat.beq 1 0) x.CG.nil false) (x.CG.n + 1) (fun i3 => (cond (Nat.blt i3 x.CG.n) (x.CG.get i3) y2))) x.SS x.Td (IntKind.i64.wrap (x.Q8 + 1)))))))
 (.jump S_ff_15 D_ff_15 (X_ff_15.mk x.Gn x.Co x.CG)))
theorem sd_ff_11 (D_ff_11 : AU X_ff_11 R_ff) (x : X_ff_11) : (tt_ff_11 D_ff_11 x).AH :=
 (TT.sI (TT.sN (TT.sC fun _ => (TT.sN TT.sJ))) TT.sJ)
def D_ff_11 : AU X_ff_11 R_ff := AU.loop tt_ff_11
theorem ok_ff_11 : AW J_ff S_ff_11 D_ff_11 :=
 A2 fun D_ff_11 h_11 => lk mxk (lbc h_11 rfl (lbc ok_ff_17 rfl (lbc ok_ff_15 rfl lbn))) (sd_ff_11 D_ff_11)
def tt_ff_7 (x : X_ff_7) : TT Tryz.prog R_ff :=
 (.need (Az x.Gn x.FV.n) <|
 (.ite (BW 0 (x.FV.get (Int.toNat x.Gn)).Thread)
 (.ite (BR (x.FV.get (Int.toNat x.Gn)).Thread ((x.H4.AB.n : Nat) : Int))
 (.need (!x.S1.nil) <|
 (.call con_fe ((x.FV.get (Int.toNat x.Gn)).Thread, x.S1.x) fun (y1 : R_fe) =>
 (.jump S_ff_11 D_ff_11 (X_ff_11.mk x.Gn x.Co (Sl.mk true 0 (fun _i2 => (ByteArray.mk #[]))) y1 ((y1.n : Nat) : Int) 0))))
 (.jump S_ff_15 D_ff_15 (X_ff_15.mk x.Gn x.Co (Sl.mk true 0 (fun _i1 => (ByteArray.mk #[]))))))
 (.jump S_ff_15 D_ff_15 (X_ff_15.mk x.Gn x.Co (Sl.mk true 0 (fun _i1 => (ByteArray.mk #[])))))))
theorem sd_ff_7 (x : X_ff_7) : (tt_ff_7 x).AH :=
 (TT.sN (TT.sI (TT.sI (TT.sN (TT.sC fun _ => TT.sJ)) TT.sJ) TT.sJ))
def D_ff_7 : AU X_ff_7 R_ff := .of tt_ff_7
theorem ok_ff_7 : AW J_ff S_ff_7 D_ff_7 :=
 lk mxk (lbc ok_ff_17 rfl (lbc ok_ff_15 rfl (lbc ok_ff_11 rfl lbn))) sd_ff_7
def tt_ff_4 (x : X_ff_4) : TT Tryz.prog R_ff :=
 (.need (Az x.Gn x.FV.n) <|
 (.call con_f45 (x.FV.get (Int.toNat x.Gn)) fun (y1 : R_f45) =>
 (.ite (!(AX y1.snd 0))
 (.jump S_ff_7 D_ff_7 (X_ff_7.mk x.FV x.H4 (Bx.mk x.S1.nil x.S1.x) x.Gn (ByteArray.mk #[63])))
 (.jump S_ff_7 D_ff_7 (X_ff_7.mk x.FV x.H4 (Bx.mk x.S1.nil x.S1.x) x.Gn y1.fst)))))
theorem sd_ff_4 (x : X_ff_4) : (tt_ff_4 x).AH :=
 (TT.sN (TT.sC fun _ => (TT.sI TT.sJ TT.sJ)))
def D_ff_4 : AU X_ff_4 R_ff := .of tt_ff_4
theorem ok_ff_4 : AW J_ff S_ff_4 D_ff_4 :=
 lk mxk (lbc ok_ff_17 rfl (lbc ok_ff_15 rfl (lbc ok_ff_11 rfl (lbc ok_ff_7 rfl lbn)))) sd_ff_4
def tt_ff (x : X_ff) : TT Tryz.prog R_ff :=
 (.call con_ft (x.fst, x.snd) fun (y1 : R_ft) =>
 (.ite (!(AX y1.snd.snd 0))
 (.ret ((ByteArray.mk #[]), y1.snd.snd))
 (.ite (AX y1.snd.fst ((x.snd.n : Nat) : Int))
 (.ret ((ByteArray.mk #[]), y1.snd.snd))
 (.jump S_ff_4 D_ff_4 (X_ff_4.mk x.snd x.fst (Bx.mk y1.fst.nil y1.fst.x) y1.snd.fst)))))
theorem sd_ff (x : X_ff) : (tt_ff x).AH :=
 (TT.sC fun _ => (TT.sI TT.sR (TT.sI TT.sR TT.sJ)))
def D_ff : AU X_ff R_ff := .of tt_ff
def con_ff : A3 Tryz.prog :=
 BS 23 J_ff S_ff D_ff 2 0 [sh_TPg, hsl_TEv] (lk mxk (lbc ok_ff_17 rfl (lbc ok_ff_15 rfl (lbc ok_ff_11 rfl (lbc ok_ff_7 rfl (lbc ok_ff_4 rfl lbn))))) sd_ff)
abbrev X_f2e : Type := TTh
abbrev R_f2e : Type := Bool
def J_f2e : A8 Tryz.prog :=
 BD Tryz.prog Tryz.f67 6 [(1, 3)] [] [] [] [.any] [] [] R_f2e [] fun y => [V.bool y]
def S_f2e : AM :=
 Ae Tryz.f67 1 0 X_f2e (fun x => [e_TTh x]) fun l => (d_TTh (at_ l 0))
def tt_f2e (x : X_f2e) : TT Tryz.prog R_f2e :=
 (.ret (AX x.Status 0))
theorem sd_f2e (x : X_f2e) : (tt_f2e x).AH :=
 TT.sR
def D_f2e : AU X_f2e R_f2e := .of tt_f2e
def con_f2e : A3 Tryz.prog :=
 BS 67 J_f2e S_f2e D_f2e 1 0 [sh_TTh] (lk mxk lbn sd_f2e)
abbrev X_f0 : Type := (Ar TTh)
abbrev R_f0 : Type := Int
abbrev RR_f0 : Type := Int × (Ar TTh)
abbrev p_f0 (y : RR_f0) : (Ar TTh) := y.2
abbrev w_f0 (x : X_f0) : (Ar TTh) := x
def J_f0 : A8 Tryz.prog :=
 BD Tryz.prog Tryz.f111 19 [] [] [] [] [.any] [.any] [con_f2e] RR_f0 [] fun y => [(V.int .i64) y.1, (Jc 14 e_TTh) y.2]
def S_f0 : AM :=
 Ae Tryz.f111 2 1 X_f0 (fun x => [(V.own (.par 0) [] 14 x.n 0 x.n), (V.fn 67 V.unit), (Jc 14 e_TTh) x]) fun l => ((PL d_TTh) (at_ l 2))
structure X_f0_2 where
 Tc : Int
 Pq : Int
 Ah : (Ar TTh)
def S_f0_2 : AM :=
 Ad Tryz.f111 2 (an [0, 1, 7, 8]) [.any] [] X_f0_2 (fun x => [(V.own (.par 0) [] 14 x.Ah.n 0 x.Ah.n), (V.fn 67 V.unit), (V.int .i64) x.Tc, (V.int .i64) x.Pq, (Jc 14 e_TTh) x.Ah]) fun l => ⟨dI (at_ l 2), dI (at_ l 3), (PL d_TTh) (at_ l 4)⟩
abbrev w_f0_2 (x : X_f0_2) : (Ar TTh) := (x.Ah)
def tt_f0_2 (D_f0_2 : AU X_f0_2 RR_f0) (x : X_f0_2) : TT Tryz.prog RR_f0 :=
 (.ite (BR x.Pq x.Tc)
 (.need (Az x.Pq x.Ah.n) <|
 (.need ((Nat.beq x.Ah.n x.Ah.n) && true) <|
 (.call con_f2e (x.Ah.get ((0 : Nat) + (Int.toNat x.Pq))) fun (y2 : R_f2e) =>
 (.ite y2
 (.ret (x.Pq, x.Ah))
 (.jump S_f0_2 D_f0_2 (X_f0_2.mk x.Tc (IntKind.i64.wrap (x.Pq + 1)) x.Ah))))))
 (.ret ((-(1 : Int)), x.Ah)))
theorem sd_f0_2 (D_f0_2 : AU X_f0_2 RR_f0) (x : X_f0_2) : (tt_f0_2 D_f0_2 x).AH :=
 (TT.sI (TT.sN (TT.sN (TT.sC fun _ => (TT.sI TT.sR TT.sJ)))) TT.sR)
theorem roT_f0_2 (D_f0_2 : AU X_f0_2 RR_f0) (r2 : ∀ x y, D_f0_2.rel x y → p_f0 y = w_f0_2 x) (x : X_f0_2) : TT.Ro p_f0 (w_f0_2 x) (tt_f0_2 D_f0_2 x) :=
 (TT.rI (TT.rN (TT.rN (TT.rC fun _ => (TT.rI (TT.rR rfl) (TT.rJ (r2 _)))))) (TT.rR rfl))
def D_f0_2 : AU X_f0_2 RR_f0 := AU.loop tt_f0_2
theorem ok_f0_2 : AW J_f0 S_f0_2 D_f0_2 :=
 A2 fun D_f0_2 h_2 => lk mxk (lbc h_2 rfl lbn) (sd_f0_2 D_f0_2)
theorem ro_f0_2 : ∀ x y, D_f0_2.rel x y → p_f0 y = w_f0_2 x :=
 JY fun D_f0_2 r2 => roT_f0_2 D_f0_2 r2
def tt_f0 (x : X_f0) : TT Tryz.prog RR_f0 :=
 (.jump S_f0_2 D_f0_2 (X_f0_2.mk ((x.n : Nat) : Int) 0 x))
theorem sd_f0 (x : X_f0) : (tt_f0 x).AH :=
 TT.sJ
theorem roT_f0 (x : X_f0) : TT.Ro p_f0 (w_f0 x) (tt_f0 x) :=
 (TT.rJ (ro_f0_2 _))
def D_f0 : AU X_f0 R_f0 := .ro (.of tt_f0) (fun y => (y.1)) (fun y x => (y, x)) fun x y h => congrArg (fun o => (y.1, o)) (roT_f0 x y h)
def con_f0 : A3 Tryz.prog :=
 C7 111 J_f0 S_f0 (.of tt_f0) D_f0 (fun y x => (y, x)) (fun y => (V.int .i64) y) 2 1 [.any, .any] (lk mxk (lbc ok_f0_2 rfl lbn) sd_f0) (fun x => ⟨(fun _ _ => (nu_e_TTh) _ : ∀ y, ((Jc 14 e_TTh) y).CU) (x), trivial⟩)
abbrev X_f7 : Type := (Ar TTh)
abbrev R_f7 : Type := Bool
abbrev RR_f7 : Type := Bool × (Ar TTh)
abbrev p_f7 (y : RR_f7) : (Ar TTh) := y.2
abbrev w_f7 (x : X_f7) : (Ar TTh) := x
def J_f7 : A8 Tryz.prog :=
 BD Tryz.prog Tryz.f66 9 [(5, 1)] [] [] [] [.any] [.any] [con_f0] RR_f7 [] fun y => [V.bool y.1, (Jc 14 e_TTh) y.2]
def S_f7 : AM :=
 Ae Tryz.f66 2 1 X_f7 (fun x => [(V.own (.par 0) [] 14 x.n 0 x.n), (V.fn 67 V.unit), (Jc 14 e_TTh) x]) fun l => ((PL d_TTh) (at_ l 2))
def tt_f7 (x : X_f7) : TT Tryz.prog RR_f7 :=
 (.call con_f0 x fun (y1 : R_f0) =>
 (.ret ((BW 0 y1), x)))
theorem sd_f7 (x : X_f7) : (tt_f7 x).AH :=
 (TT.sC fun _ => TT.sR)
theorem roT_f7 (x : X_f7) : TT.Ro p_f7 (w_f7 x) (tt_f7 x) :=
 (TT.rC fun _ => (TT.rR rfl))
def D_f7 : AU X_f7 R_f7 := .ro (.of tt_f7) (fun y => (y.1)) (fun y x => (y, x)) fun x y h => congrArg (fun o => (y.1, o)) (roT_f7 x y h)
def con_f7 : A3 Tryz.prog :=
 C7 66 J_f7 S_f7 (.of tt_f7) D_f7 (fun y x => (y, x)) (fun y => V.bool y) 2 1 [.any, .any] (lk mxk lbn sd_f7) (fun x => ⟨(fun _ _ => (nu_e_TTh) _ : ∀ y, ((Jc 14 e_TTh) y).CU) (x), trivial⟩)
abbrev X_f1l : Type := TFa
abbrev R_f1l : Type := Bool
abbrev RR_f1l : Type := Bool × TFa
abbrev p_f1l (y : RR_f1l) : TFa := y.2
abbrev w_f1l (x : X_f1l) : TFa := x
def J_f1l : A8 Tryz.prog :=
 BD Tryz.prog Tryz.f31 13 [] [] [] [.back (.loc 9 0)] [.any] [sh_TFa] [con_f7] RR_f1l [] fun y => [V.bool y.1, e_TFa y.2]
def S_f1l : AM :=
 Ae Tryz.f31 1 1 X_f1l (fun x => [(V.ptr (.par 0) []), e_TFa x]) fun l => (d_TFa (at_ l 1))
def tt_f1l (x : X_f1l) : TT Tryz.prog RR_f1l :=
 (.call con_f7 (Ar.mk x.threads.n x.threads.get) fun (y1 : R_f7) =>
 (.need ((true && true) && (Nat.beq x.threads.n x.threads.n)) <|
 (.ret ((!y1), x))))
theorem sd_f1l (x : X_f1l) : (tt_f1l x).AH :=
 (TT.sC fun _ => (TT.sN TT.sR))
theorem roT_f1l (x : X_f1l) : TT.Ro p_f1l (w_f1l x) (tt_f1l x) :=
 (TT.rC fun _ => (TT.rN (TT.rR rfl)))
def D_f1l : AU X_f1l R_f1l := .ro (.of tt_f1l) (fun y => (y.1)) (fun y x => (y, x)) fun x y h => congrArg (fun o => (y.1, o)) (roT_f1l x y h)
def con_f1l : A3 Tryz.prog :=
 C7 31 J_f1l S_f1l (.of tt_f1l) D_f1l (fun y x => (y, x)) (fun y => V.bool y) 1 1 [.any] (lk mxk lbn sd_f1l) (fun x => ⟨(nu_e_TFa : ∀ y, (e_TFa y).CU) (x), trivial⟩)
abbrev X_fc : Type := TPg × (Sl TEv)
abbrev R_fc : Type := Bool × Int
def J_fc : A8 Tryz.prog :=
 BD Tryz.prog Tryz.f21 41 [(2, 3), (11, 1), (13, 1)] [(4, [.open_ 6])] [] [] [.any, .any] [] [con_fd, con_f1l, con_f13, con_f3s] R_fc [] fun y => [V.B9 (V.cons (V.bool y.1) (V.cons ((V.int .i64) y.2) (V.unit)))]
def S_fc : AM :=
 Ae Tryz.f21 2 0 X_fc (fun x => [e_TPg x.1, esl_TEv x.2]) fun l => (d_TPg (at_ l 0), dsl_TEv (at_ l 1))
structure X_fc_6 where
 D7 : Bool
 Fl : Int
 Jz : Int
 C1 : TFa
def S_fc_6 : AM :=
 Ad Tryz.f21 6 (an [6, 8, 25, 26]) [] [(.loc 6 1, sh_TFa)] X_fc_6 (fun x => [(V.ptr (.loc 6 1) []), V.bool x.D7, (V.int .i64) x.Fl, (V.int .i64) x.Jz, e_TFa x.C1]) fun l => ⟨dB (at_ l 1), dI (at_ l 2), dI (at_ l 3), d_TFa (at_ l 4)⟩
structure X_fc_9 where
 D7 : Bool
 t_9 : Int
 JZ : Int
 Fl : Int
 Jz : Int
 C1 : TFa
def S_fc_9 : AM :=
 Ad Tryz.f21 9 (an [6, 8, 9, 10, 25, 26]) [] [(.loc 6 1, sh_TFa)] X_fc_9 (fun x => [(V.ptr (.loc 6 1) []), V.bool x.D7, (V.int .i64) x.t_9, (V.int .i64) x.JZ, (V.int .i64) x.Fl, (V.int .i64) x.Jz, e_TFa x.C1]) fun l => ⟨dB (at_ l 1), dI (at_ l 2), dI (at_ l 3), dI (at_ l 4), dI (at_ l 5), d_TFa (at_ l 6)⟩
structure X_fc_13 where
 D7 : Bool
 Fl : Int
 Jz : Int
 C1 : TFa
def S_fc_13 : AM :=
 Ad Tryz.f21 13 (an [6, 8, 25, 26]) [] [(.loc 6 1, sh_TFa)] X_fc_13 (fun x => [(V.ptr (.loc 6 1) []), V.bool x.D7, (V.int .i64) x.Fl, (V.int .i64) x.Jz, e_TFa x.C1]) fun l => ⟨dB (at_ l 1), dI (at_ l 2), dI (at_ l 3), d_TFa (at_ l 4)⟩
def tt_fc_13 (D_fc_6 : AU X_fc_6 R_fc) (x : X_fc_13) : TT Tryz.prog R_fc :=
 (.jump S_fc_6 D_fc_6 (X_fc_6.mk x.D7 x.Fl (IntKind.i64.wrap (x.Jz + 1)) x.C1))
theorem sd_fc_13 (D_fc_6 : AU X_fc_6 R_fc) (x : X_fc_13) : (tt_fc_13 D_fc_6 x).AH :=
 TT.sJ
def D_fc_13 (D_fc_6 : AU X_fc_6 R_fc) : AU X_fc_13 R_fc := .of (tt_fc_13 D_fc_6)
theorem ok_fc_13 (D_fc_6 : AU X_fc_6 R_fc) (h_6 : AW J_fc S_fc_6 D_fc_6) : AW J_fc S_fc_13 (D_fc_13 D_fc_6) :=
 lk mxk (lbc h_6 rfl lbn) (sd_fc_13 D_fc_6)
def tt_fc_9 (D_fc_6 : AU X_fc_6 R_fc) (D_fc_9 : AU X_fc_9 R_fc) (x : X_fc_9) : TT Tryz.prog R_fc :=
 (.ite (BW x.JZ 15)
 (.call con_f13 (x.t_9, (x.JZ, x.C1)) fun (y3 : R_f13) =>
 (.call con_fd (y3, x.C1) fun (y4 : R_fd) =>
 (.ite y4
 (.ret (false, 0))
 (.jump S_fc_9 D_fc_9 (X_fc_9.mk x.D7 x.t_9 (IntKind.i64.wrap (x.JZ + 1)) x.Fl x.Jz x.C1)))))
 (.jump S_fc_13 (D_fc_13 D_fc_6) (X_fc_13.mk x.D7 x.Fl x.Jz x.C1)))
theorem sd_fc_9 (D_fc_6 : AU X_fc_6 R_fc) (D_fc_9 : AU X_fc_9 R_fc) (x : X_fc_9) : (tt_fc_9 D_fc_6 D_fc_9 x).AH :=
 (TT.sI (TT.sC fun _ => (TT.sC fun _ => (TT.sI TT.sR TT.sJ))) TT.sJ)
def D_fc_9 (D_fc_6 : AU X_fc_6 R_fc) : AU X_fc_9 R_fc := AU.loop (tt_fc_9 D_fc_6)
theorem ok_fc_9 (D_fc_6 : AU X_fc_6 R_fc) (h_6 : AW J_fc S_fc_6 D_fc_6) : AW J_fc S_fc_9 (D_fc_9 D_fc_6) :=
 A2 fun D_fc_9 h_9 => lk mxk (lbc h_6 rfl (lbc h_9 rfl (lbc (ok_fc_13 D_fc_6 h_6) rfl lbn))) (sd_fc_9 D_fc_6 D_fc_9)
def tt_fc_6 (D_fc_6 : AU X_fc_6 R_fc) (x : X_fc_6) : TT Tryz.prog R_fc :=
 (.ite (BR x.Jz x.Fl)
 (.jump S_fc_9 (D_fc_9 D_fc_6) (X_fc_9.mk x.D7 x.Jz 1 x.Fl x.Jz x.C1))
 (.ret (x.D7, 0)))
theorem sd_fc_6 (D_fc_6 : AU X_fc_6 R_fc) (x : X_fc_6) : (tt_fc_6 D_fc_6 x).AH :=
 (TT.sI TT.sJ TT.sR)
def D_fc_6 : AU X_fc_6 R_fc := AU.loop tt_fc_6
theorem ok_fc_6 : AW J_fc S_fc_6 D_fc_6 :=
 A2 fun D_fc_6 h_6 => lk mxk (lbc h_6 rfl (lbc (ok_fc_13 D_fc_6 h_6) rfl (lbc (ok_fc_9 D_fc_6 h_6) rfl lbn))) (sd_fc_6 D_fc_6)
def tt_fc (x : X_fc) : TT Tryz.prog R_fc :=
 (.call con_f3s (x.fst, x.snd) fun (y1 : R_f3s) =>
 (.ite (!(AX y1.snd 0))
 (.ret (false, y1.snd))
 (.need (!y1.fst.nil) <|
 (.call con_f1l y1.fst.x fun (y2 : R_f1l) =>
 (.jump S_fc_6 D_fc_6 (X_fc_6.mk (!y2) ((x.fst.AB.n : Nat) : Int) 0 y1.fst.x))))))
theorem sd_fc (x : X_fc) : (tt_fc x).AH :=
 (TT.sC fun _ => (TT.sI TT.sR (TT.sN (TT.sC fun _ => TT.sJ))))
def D_fc : AU X_fc R_fc := .of tt_fc
def con_fc : A3 Tryz.prog :=
 BS 21 J_fc S_fc D_fc 2 0 [sh_TPg, hsl_TEv] (lk mxk (lbc ok_fc_6 rfl lbn) sd_fc)
abbrev X_f2j : Type := (Sl Int) × (Sl Int)
abbrev R_f2j : Type := Bool
def J_f2j : A8 Tryz.prog :=
 BD Tryz.prog Tryz.f19 26 [] [] [] [] [.any] [] [] R_f2j [] fun y => [V.bool y]
def S_f2j : AM :=
 Ae Tryz.f19 2 0 X_f2j (fun x => [ED x.1, ED x.2]) fun l => (F0 (at_ l 0), F0 (at_ l 1))
structure X_f2j_4 where
 a_0 : (Sl Int)
 b_1 : (Sl Int)
 M6 : Int
 HC : Int
def S_f2j_4 : AM :=
 Ad Tryz.f19 4 [(0, EX), (1, EX), (12, .any), (13, .any)] [] [] X_f2j_4 (fun x => [ED x.a_0, ED x.b_1, (V.int .i64) x.M6, (V.int .i64) x.HC]) fun l => ⟨F0 (at_ l 0), F0 (at_ l 1), dI (at_ l 2), dI (at_ l 3)⟩
def tt_f2j_4 (D_f2j_4 : AU X_f2j_4 R_f2j) (x : X_f2j_4) : TT Tryz.prog R_f2j :=
 (.ite (BR x.HC x.M6)
 (.need (Az x.HC x.a_0.n) <|
 (.need (Az x.HC x.b_1.n) <|
 (.ite (!(AX (x.a_0.get (Int.toNat x.HC)) (x.b_1.get (Int.toNat x.HC))))
 (.ret false)
 (.jump S_f2j_4 D_f2j_4 (X_f2j_4.mk x.a_0 x.b_1 x.M6 (IntKind.i64.wrap (x.HC + 1)))))))
 (.ret true))
theorem sd_f2j_4 (D_f2j_4 : AU X_f2j_4 R_f2j) (x : X_f2j_4) : (tt_f2j_4 D_f2j_4 x).AH :=
 (TT.sI (TT.sN (TT.sN (TT.sI TT.sR TT.sJ))) TT.sR)
def D_f2j_4 : AU X_f2j_4 R_f2j := AU.loop tt_f2j_4
theorem ok_f2j_4 : AW J_f2j S_f2j_4 D_f2j_4 :=
 A2 fun D_f2j_4 h_4 => lk mxk (lbc h_4 rfl lbn) (sd_f2j_4 D_f2j_4)
def tt_f2j (x : X_f2j) : TT Tryz.prog R_f2j :=
 (.ite (!(AX ((x.fst.n : Nat) : Int) ((x.snd.n : Nat) : Int)))
 (.ret false)
 (.jump S_f2j_4 D_f2j_4 (X_f2j_4.mk x.fst x.snd ((x.fst.n : Nat) : Int) 0)))
theorem sd_f2j (x : X_f2j) : (tt_f2j x).AH :=
 (TT.sI TT.sR TT.sJ)
def D_f2j : AU X_f2j R_f2j := .of tt_f2j
def con_f2j : A3 Tryz.prog :=
 BS 19 J_f2j S_f2j D_f2j 2 0 [EX, EX] (lk mxk (lbc ok_f2j_4 rfl lbn) sd_f2j)
abbrev X_f4b : Type := Unit
abbrev R_f4b : Type := Bool
def J_f4b : A8 Tryz.prog :=
 BD Tryz.prog Tryz.f36 37 [(12, 1), (17, 1)] [] [] [] [.any] [] [con_fc, con_ff] R_f4b [] fun y => [V.bool y]
def S_f4b : AM :=
 Ae Tryz.f36 0 0 X_f4b (fun _x => []) fun _l => ()
def tt_f4b (_x : X_f4b) : TT Tryz.prog R_f4b :=
 (.call con_fc ((TPg.mk (Sl.mk false 1 (fun _i1 => (TRg.mk 1 1 1))) (Sl.mk false 1 (fun _i1 => (Sl.mk false 1 (fun _i2 => (TIn.mk 19 1 2 0 1 0)))))), (Sl.mk true 0 (fun _i1 => (TEv.mk 0 0 0 0 0)))) fun (y1 : R_fc) =>
 (.call con_ff ((TPg.mk (Sl.mk false 1 (fun _i2 => (TRg.mk 1 1 1))) (Sl.mk false 1 (fun _i2 => (Sl.mk false 1 (fun _i3 => (TIn.mk 19 1 2 0 1 0)))))), (Sl.mk false 1 (fun _i2 => (TEv.mk 0 3 0 0 0)))) fun (y2 : R_ff) =>
 (.ite y1.fst
 (.ite (AX y1.snd 0)
 (.ite (seq y2.fst (ByteArray.mk #[48, 58, 32, 48, 32, 116, 97, 107, 101, 32, 48, 32, 48, 44, 32, 110, 111, 116, 32, 110, 111, 116, 104, 105, 110, 103]))
 (.ret (AX y2.snd 0))
 (.ret false))
 (.ret false))
 (.ret false))))
theorem sd_f4b (x : X_f4b) : (tt_f4b x).AH :=
 (TT.sC fun _ => (TT.sC fun _ => (TT.sI (TT.sI (TT.sI TT.sR TT.sR) TT.sR) TT.sR)))
def D_f4b : AU X_f4b R_f4b := .of tt_f4b
def con_f4b : A3 Tryz.prog :=
 BS 36 J_f4b S_f4b D_f4b 0 0 [] (lk mxk lbn sd_f4b)
abbrev X_f3p : Type := Unit
abbrev R_f3p : Type := Bool
def J_f3p : A8 Tryz.prog :=
 BD Tryz.prog Tryz.f11 119 [(22, 1), (28, 1), (33, 1), (39, 1), (45, 1), (50, 1), (55, 1), (57, 1), (61, 1), (76, 1)] [] [] [] [.any] [] [con_f2q, con_f34, con_fc, con_ff, con_f2j, con_f4e, con_f4b] R_f3p [] fun y => [V.bool y]
def S_f3p : AM :=
 Ae Tryz.f11 0 0 X_f3p (fun _x => []) fun _l => ()
def tt_f3p (_x : X_f3p) : TT Tryz.prog R_f3p :=
 (.call con_f4e PUnit.unit fun (y1 : R_f4e) =>
 (.call con_f34 (y1, (Sl.mk false 1 (fun _i2 => (TEv.mk 0 14 0 0 0)))) fun (y2 : R_f34) =>
 (.call con_f2q (y1, ((Sl.mk true 0 (fun _i3 => (TEv.mk 0 0 0 0 0))), 0)) fun (y3 : R_f2q) =>
 (.call con_ff (y1, (Sl.mk false 1 (fun _i4 => (TEv.mk 0 14 0 0 0)))) fun (y4 : R_ff) =>
 (.call con_f2q (y1, ((Sl.mk false 1 (fun _i5 => (TEv.mk 0 14 0 0 0))), 0)) fun (y5 : R_f2q) =>
 (.call con_f2q (y1, ((Sl.mk true 0 (fun _i6 => (TEv.mk 0 0 0 0 0))), 1)) fun (y6 : R_f2q) =>
 (.call con_f34 ((TPg.mk (Sl.mk true 0 (fun _i7 => (TRg.mk 0 0 0))) (Sl.mk true 0 (fun _i7 => (Sl.mk true 0 (fun _i8 => (TIn.mk 0 0 0 0 0 0)))))), (Sl.mk true 0 (fun _i7 => (TEv.mk 0 0 0 0 0)))) fun (y7 : R_f34) =>
 (.call con_fc (y1, (Sl.mk false 1 (fun _i8 => (TEv.mk 0 14 0 0 0)))) fun (y8 : R_fc) =>
 (.call con_f34 (y1, (Sl.mk false 2 (fun i9 => (TEv.mk (cond (Nat.beq i9 0) (0 : Int) (0 : Int)) (cond (Nat.beq i9 0) (12 : Int) (14 : Int)) (cond (Nat.beq i9 0) (0 : Int) (0 : Int)) (cond (Nat.beq i9 0) (0 : Int) (0 : Int)) (cond (Nat.beq i9 0) (0 : Int) (0 : Int)))))) fun (y9 : R_f34) =>
 (.ite (AX y2.fst 0)
 (.ite (AX y2.snd 0)
 (.call con_f2j (y3.fst, (Sl.mk false 1 (fun _i10 => (12 : Int)))) fun (y10 : R_f2j) =>
 (.ite y10
 (.ite (AX y3.snd 0)
 (.ite (seq y4.fst (ByteArray.mk #[48, 58, 32, 48, 32, 104, 97, 108, 116, 44, 32, 110, 111, 116, 32, 115, 101, 101]))
 (.ite (AX y4.snd 0)
 (.ite (AX y5.snd 11)
 (.ite (AX y6.snd 5)
 (.ite (AX y7.snd 1)
 (.ite (AX y8.snd 11)
 (.ite (AX y9.fst 2)
 (.ite (AX y9.snd 0)
 (.call con_f4b PUnit.unit fun (y11 : R_f4b) =>
 (.ret y11))
 (.ret false))
 (.ret false))
 (.ret false))
 (.ret false))
 (.ret false))
 (.ret false))
 (.ret false))
 (.ret false))
 (.ret false))
 (.ret false)))
 (.ret false))
 (.ret false)))))))))))
theorem sd_f3p (x : X_f3p) : (tt_f3p x).AH :=
 (TT.sC fun _ => (TT.sC fun _ => (TT.sC fun _ => (TT.sC fun _ => (TT.sC fun _ => (TT.sC fun _ => (TT.sC fun _ => (TT.sC fun _ => (TT.sC fun _ => (TT.sI (TT.sI (TT.sC fun _ => (TT.sI (TT.sI (TT.sI (TT.sI (TT.sI (TT.sI (TT.sI (TT.sI (TT.sI (TT.sI (TT.sC fun _ => TT.sR) TT.sR) TT.sR) TT.sR) TT.sR) TT.sR) TT.sR) TT.sR) TT.sR) TT.sR) TT.sR)) TT.sR) TT.sR))))))))))
def D_f3p : AU X_f3p R_f3p := .of tt_f3p
def con_f3p : A3 Tryz.prog :=
 BS 11 J_f3p S_f3p D_f3p 0 0 [] (lk mxk lbn sd_f3p)
end Go.Proofs.YtlhifcnjnmeknaaGreatDoor
end
