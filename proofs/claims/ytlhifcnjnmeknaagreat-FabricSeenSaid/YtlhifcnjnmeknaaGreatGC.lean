/- What functions of the program come to, part C: no statement is proved here. -/
import Derived.Test.YtlhifcnjnmeknaaGreatGB
noncomputable section
namespace Go.Proofs.YtlhifcnjnmeknaaGreat
open Go Go.Vm Go.Proofs
set_option maxRecDepth 100000
abbrev X_f1n : Type := Int × Int × TSs
abbrev R_f1n : Type := Bool
abbrev RR_f1n : Type := Bool × TSs
abbrev p_f1n (y : RR_f1n) : TSs := y.2
abbrev w_f1n (x : X_f1n) : TSs := x.2.2
def J_f1n : BH Tryz.prog :=
 BR Tryz.prog Tryz.f81 12 [] [] [] [] [.any] [sh_TSs] [con_fi] RR_f1n [] fun y => [V.bool y.1, e_TSs y.2]
def S_f1n : AR :=
 Aj Tryz.f81 3 1 X_f1n (fun x => [(V.ptr (.par 0) []), (V.int .i64) x.1, (V.int .u64) x.2.1, e_TSs x.2.2]) fun l => (dI (at_ l 1), dI (at_ l 2), d_TSs (at_ l 3))
def tt_f1n (x : X_f1n) : TT Tryz.prog RR_f1n :=
 (.call con_fi x fun (y1 : R_fi) =>
 (.ret ((Ad y1 0), x.snd.snd)))
theorem sd_f1n (x : X_f1n) : (tt_f1n x).AH :=
 (TT.sC fun _ => TT.sR)
theorem roT_f1n (x : X_f1n) : TT.Ro p_f1n (w_f1n x) (tt_f1n x) :=
 (TT.rC fun _ => (TT.rR rfl))
def D_f1n : AV X_f1n R_f1n := .ro (.of tt_f1n) (fun y => (y.1)) (fun y x => (y, x.2.2)) fun x y h => congrArg (fun o => (y.1, o)) (roT_f1n x y h)
def con_f1n : BC Tryz.prog :=
 Cb 81 J_f1n S_f1n (.of tt_f1n) D_f1n (fun y x => (y, x.2.2)) (fun y => V.bool y) 3 1 [.any, .any, .any] (lk mxk lbn sd_f1n) (fun x => ⟨(nu_e_TSs : ∀ y, (e_TSs y).CB) (x.2.2), trivial⟩)
abbrev X_f1z : Type := Int × Int × TRr
abbrev R_f1z : Type := Bool
abbrev RR_f1z : Type := Bool × TRr
abbrev p_f1z (y : RR_f1z) : TRr := y.2
abbrev w_f1z (x : X_f1z) : TRr := x.2.2
def J_f1z : BH Tryz.prog :=
 BR Tryz.prog Tryz.f59 37 [] [] [] [.back (.loc 32 0), .back (.loc 22 0)] [.any] [sh_TRr] [con_fp, con_f1n] RR_f1z [] fun y => [V.bool y.1, e_TRr y.2]
def S_f1z : AR :=
 Aj Tryz.f59 3 1 X_f1z (fun x => [(V.ptr (.par 0) []), (V.int .i64) x.1, (V.int .u64) x.2.1, e_TRr x.2.2]) fun l => (dI (at_ l 1), dI (at_ l 2), d_TRr (at_ l 3))
def tt_f1z (x : X_f1z) : TT Tryz.prog RR_f1z :=
 (.call con_fp (x.fst, x.snd.snd.AA) fun (y1 : R_fp) =>
 (.ite y1
 (.need (BA x.fst x.snd.snd.AA.AB.n) <|
 (.need ((Nat.beq x.snd.snd.AA.AB.n x.snd.snd.AA.AB.n) && true) <|
 (.ite (Bu x.snd.fst (x.snd.snd.AA.AB.get ((0 : Nat) + (Int.toNat x.fst))))
 (.need (true && (!x.snd.snd.s.nil)) <|
 (.call con_f1n (x.fst, (x.snd.fst, x.snd.snd.s.x)) fun (y2 : R_f1n) =>
 (.need ((true && true) && (!x.snd.snd.s.nil)) <|
 (.side ((fun v : V => v = v) (V.cons (V.Aq 115 3 x.snd.snd.s.x.l.nil x.snd.snd.s.x.l.n (fun i3 => (V.cons (V.int IntKind.u64 (x.snd.snd.s.x.l.get i3).AQ) (V.cons (V.int IntKind.u64 (x.snd.snd.s.x.l.get i3).Value) (V.cons (V.int IntKind.i64 (x.snd.snd.s.x.l.get i3).Left) V.unit))))) (V.cons (V.int IntKind.i64 x.snd.snd.s.x.AP) V.unit))) <|
 (.need ((true && true) && (Nat.beq x.snd.snd.AA.AB.n x.snd.snd.AA.AB.n)) <|
 (.ret (y2, x.snd.snd)))))))
 (.need ((true && true) && (Nat.beq x.snd.snd.AA.AB.n x.snd.snd.AA.AB.n)) <|
 (.ret (false, x.snd.snd))))))
 (.ret (false, x.snd.snd))))
theorem sd_f1z (x : X_f1z) : (tt_f1z x).AH :=
 (TT.sC fun _ => (TT.sI (TT.sN (TT.sN (TT.sI (TT.sN (TT.sC fun _ => (TT.sN (TT.sS rfl (TT.sN TT.sR))))) (TT.sN TT.sR)))) TT.sR))
theorem roT_f1z (x : X_f1z) : TT.Ro p_f1z (w_f1z x) (tt_f1z x) :=
 (TT.rC fun _ => (TT.rI (TT.rN (TT.rN (TT.rI (TT.rN (TT.rC fun _ => (TT.rN (TT.rS (TT.rN (TT.rR rfl)))))) (TT.rN (TT.rR rfl))))) (TT.rR rfl)))
def D_f1z : AV X_f1z R_f1z := .ro (.of tt_f1z) (fun y => (y.1)) (fun y x => (y, x.2.2)) fun x y h => congrArg (fun o => (y.1, o)) (roT_f1z x y h)
def con_f1z : BC Tryz.prog :=
 Cb 59 J_f1z S_f1z (.of tt_f1z) D_f1z (fun y x => (y, x.2.2)) (fun y => V.bool y) 3 1 [.any, .any, .any] (lk mxk lbn sd_f1z) (fun x => ⟨(nu_e_TRr : ∀ y, (e_TRr y).CB) (x.2.2), trivial⟩)
abbrev X_fx : Type := TEv × TAk × TFa
abbrev R_fx : Type := Bool
abbrev RR_fx : Type := Bool × TFa
abbrev p_fx (y : RR_fx) : TFa := y.2
abbrev w_fx (x : X_fx) : TFa := x.2.2
def J_fx : BH Tryz.prog :=
 BR Tryz.prog Tryz.f31 65 [(4, 3), (5, 3)] [] [(1, [.Gb (.par 0) [.BN 2 3] 11])] [.back (.loc 15 0), .back (.loc 11 0)] [.any] [sh_TFa] [con_f15, con_f1t, con_f1b, con_f1z, con_fk, con_f1k] RR_fx [(0, [⟨.loc 11 0, .par 0, [.BN 2 3], none, none⟩])] fun y => [V.bool y.1, e_TFa y.2]
def S_fx : AR :=
 Aj Tryz.f31 3 1 X_fx (fun x => [(V.ptr (.par 0) []), e_TEv x.1, e_TAk x.2.1, e_TFa x.2.2]) fun l => (d_TEv (at_ l 1), d_TAk (at_ l 2), d_TFa (at_ l 3))
def tt_fx (x : X_fx) : TT Tryz.prog RR_fx :=
 (.need (BA x.fst.Ring x.snd.snd.rings.n) <|
 (.need (((Nat.beq x.snd.snd.rings.n x.snd.snd.rings.n) && true) && (!(x.snd.snd.rings.get ((0 : Nat) + (Int.toNat x.fst.Ring))).nil)) <|
 (.ite (Ad x.fst.Kind 1)
 (.call con_f1b (x.snd.snd.rings.get ((0 : Nat) + (Int.toNat x.fst.Ring))).x fun (y1 : R_f1b) =>
 (.ite (!y1)
 (.call con_f1k (x.snd.snd.rings.get ((0 : Nat) + (Int.toNat x.fst.Ring))).x fun (y2 : R_f1k) =>
 (.need ((true && true) && (((Nat.beq x.snd.snd.rings.n x.snd.snd.rings.n) && (Nat.blt ((0 : Nat) + (Int.toNat x.fst.Ring)) x.snd.snd.rings.n)) && (!(x.snd.snd.rings.get ((0 : Nat) + (Int.toNat x.fst.Ring))).nil))) <|
 (.side (((fun v : Nat → V => v = v) (fun i3 => (cond (Nat.beq i3 ((0 : Nat) + (Int.toNat x.fst.Ring))) (V.ptr (Id.loc 15 0) List.nil) (V.Aa (x.snd.snd.rings.get i3).nil (V.cons (V.cons (V.int IntKind.u64 (x.snd.snd.rings.get i3).x.AA.tail) (V.cons (V.Aq 36 1 (x.snd.snd.rings.get i3).x.AA.AB.nil (x.snd.snd.rings.get i3).x.AA.AB.n (fun i4 => (V.int IntKind.u64 ((x.snd.snd.rings.get i3).x.AA.AB.get i4)))) V.unit)) (V.cons (V.Aa (x.snd.snd.rings.get i3).x.s.nil (V.cons (V.Aq 115 3 (x.snd.snd.rings.get i3).x.s.x.l.nil (x.snd.snd.rings.get i3).x.s.x.l.n (fun i4 => (V.cons (V.int IntKind.u64 ((x.snd.snd.rings.get i3).x.s.x.l.get i4).AQ) (V.cons (V.int IntKind.u64 ((x.snd.snd.rings.get i3).x.s.x.l.get i4).Value) (V.cons (V.int IntKind.i64 ((x.snd.snd.rings.get i3).x.s.x.l.get i4).Left) V.unit))))) (V.cons (V.int IntKind.i64 (x.snd.snd.rings.get i3).x.s.x.AP) V.unit))) (V.cons (V.int IntKind.u64 (x.snd.snd.rings.get i3).x.most) (V.cons (V.bool (x.snd.snd.rings.get i3).x.closed) V.unit)))))))) ∧ (((fun v : V => v = v) (V.cons (V.cons (V.int IntKind.u64 (x.snd.snd.rings.get ((0 : Nat) + (Int.toNat x.fst.Ring))).x.AA.tail) (V.cons (V.Aq 36 1 (x.snd.snd.rings.get ((0 : Nat) + (Int.toNat x.fst.Ring))).x.AA.AB.nil (x.snd.snd.rings.get ((0 : Nat) + (Int.toNat x.fst.Ring))).x.AA.AB.n (fun i3 => (V.int IntKind.u64 ((x.snd.snd.rings.get ((0 : Nat) + (Int.toNat x.fst.Ring))).x.AA.AB.get i3)))) V.unit)) (V.cons (V.Aa (x.snd.snd.rings.get ((0 : Nat) + (Int.toNat x.fst.Ring))).x.s.nil (V.cons (V.Aq 115 3 (x.snd.snd.rings.get ((0 : Nat) + (Int.toNat x.fst.Ring))).x.s.x.l.nil (x.snd.snd.rings.get ((0 : Nat) + (Int.toNat x.fst.Ring))).x.s.x.l.n (fun i3 => (V.cons (V.int IntKind.u64 ((x.snd.snd.rings.get ((0 : Nat) + (Int.toNat x.fst.Ring))).x.s.x.l.get i3).AQ) (V.cons (V.int IntKind.u64 ((x.snd.snd.rings.get ((0 : Nat) + (Int.toNat x.fst.Ring))).x.s.x.l.get i3).Value) (V.cons (V.int IntKind.i64 ((x.snd.snd.rings.get ((0 : Nat) + (Int.toNat x.fst.Ring))).x.s.x.l.get i3).Left) V.unit))))) (V.cons (V.int IntKind.i64 (x.snd.snd.rings.get ((0 : Nat) + (Int.toNat x.fst.Ring))).x.s.x.AP) V.unit))) (V.cons (V.int IntKind.u64 (x.snd.snd.rings.get ((0 : Nat) + (Int.toNat x.fst.Ring))).x.most) (V.cons (V.bool (x.snd.snd.rings.get ((0 : Nat) + (Int.toNat x.fst.Ring))).x.closed) V.unit))))) ∧ ((fun v : V => v = v) (V.Aa (x.snd.snd.rings.get ((0 : Nat) + (Int.toNat x.fst.Ring))).nil (V.cons (V.cons (V.int IntKind.u64 (x.snd.snd.rings.get ((0 : Nat) + (Int.toNat x.fst.Ring))).x.AA.tail) (V.cons (V.Aq 36 1 (x.snd.snd.rings.get ((0 : Nat) + (Int.toNat x.fst.Ring))).x.AA.AB.nil (x.snd.snd.rings.get ((0 : Nat) + (Int.toNat x.fst.Ring))).x.AA.AB.n (fun i3 => (V.int IntKind.u64 ((x.snd.snd.rings.get ((0 : Nat) + (Int.toNat x.fst.Ring))).x.AA.AB.get i3)))) V.unit)) (V.cons (V.Aa (x.snd.snd.rings.get ((0 : Nat) + (Int.toNat x.fst.Ring))).x.s.nil (V.cons (V.Aq 115 3 (x.snd.snd.rings.get ((0 : Nat) + (Int.toNat x.fst.Ring))).x.s.x.l.nil (x.snd.snd.rings.get ((0 : Nat) + (Int.toNat x.fst.Ring))).x.s.x.l.n (fun i3 => (V.cons (V.int IntKind.u64 ((x.snd.snd.rings.get ((0 : Nat) + (Int.toNat x.fst.Ring))).x.s.x.l.get i3).AQ) (V.cons (V.int IntKind.u64 ((x.snd.snd.rings.get ((0 : Nat) + (Int.toNat x.fst.Ring))).x.s.x.l.get i3).Value) (V.cons (V.int IntKind.i64 ((x.snd.snd.rings.get ((0 : Nat) + (Int.toNat x.fst.Ring))).x.s.x.l.get i3).Left) V.unit))))) (V.cons (V.int IntKind.i64 (x.snd.snd.rings.get ((0 : Nat) + (Int.toNat x.fst.Ring))).x.s.x.AP) V.unit))) (V.cons (V.int IntKind.u64 (x.snd.snd.rings.get ((0 : Nat) + (Int.toNat x.fst.Ring))).x.most) (V.cons (V.bool (x.snd.snd.rings.get ((0 : Nat) + (Int.toNat x.fst.Ring))).x.closed) V.unit)))))))) <|
 (.need ((true && true) && (Nat.beq x.snd.snd.rings.n x.snd.snd.rings.n)) <|
 (.ret ((Ad x.fst.AJ y2), x.snd.snd))))))
 (.need ((true && true) && (((Nat.beq x.snd.snd.rings.n x.snd.snd.rings.n) && (Nat.blt ((0 : Nat) + (Int.toNat x.fst.Ring)) x.snd.snd.rings.n)) && (!(x.snd.snd.rings.get ((0 : Nat) + (Int.toNat x.fst.Ring))).nil))) <|
 (.side (((fun v : Nat → V => v = v) (fun i2 => (cond (Nat.beq i2 ((0 : Nat) + (Int.toNat x.fst.Ring))) (V.ptr (Id.loc 15 0) List.nil) (V.Aa (x.snd.snd.rings.get i2).nil (V.cons (V.cons (V.int IntKind.u64 (x.snd.snd.rings.get i2).x.AA.tail) (V.cons (V.Aq 36 1 (x.snd.snd.rings.get i2).x.AA.AB.nil (x.snd.snd.rings.get i2).x.AA.AB.n (fun i3 => (V.int IntKind.u64 ((x.snd.snd.rings.get i2).x.AA.AB.get i3)))) V.unit)) (V.cons (V.Aa (x.snd.snd.rings.get i2).x.s.nil (V.cons (V.Aq 115 3 (x.snd.snd.rings.get i2).x.s.x.l.nil (x.snd.snd.rings.get i2).x.s.x.l.n (fun i3 => (V.cons (V.int IntKind.u64 ((x.snd.snd.rings.get i2).x.s.x.l.get i3).AQ) (V.cons (V.int IntKind.u64 ((x.snd.snd.rings.get i2).x.s.x.l.get i3).Value) (V.cons (V.int IntKind.i64 ((x.snd.snd.rings.get i2).x.s.x.l.get i3).Left) V.unit))))) (V.cons (V.int IntKind.i64 (x.snd.snd.rings.get i2).x.s.x.AP) V.unit))) (V.cons (V.int IntKind.u64 (x.snd.snd.rings.get i2).x.most) (V.cons (V.bool (x.snd.snd.rings.get i2).x.closed) V.unit)))))))) ∧ (((fun v : V => v = v) (V.cons (V.cons (V.int IntKind.u64 (x.snd.snd.rings.get ((0 : Nat) + (Int.toNat x.fst.Ring))).x.AA.tail) (V.cons (V.Aq 36 1 (x.snd.snd.rings.get ((0 : Nat) + (Int.toNat x.fst.Ring))).x.AA.AB.nil (x.snd.snd.rings.get ((0 : Nat) + (Int.toNat x.fst.Ring))).x.AA.AB.n (fun i2 => (V.int IntKind.u64 ((x.snd.snd.rings.get ((0 : Nat) + (Int.toNat x.fst.Ring))).x.AA.AB.get i2)))) V.unit)) (V.cons (V.Aa (x.snd.snd.rings.get ((0 : Nat) + (Int.toNat x.fst.Ring))).x.s.nil (V.cons (V.Aq 115 3 (x.snd.snd.rings.get ((0 : Nat) + (Int.toNat x.fst.Ring))).x.s.x.l.nil (x.snd.snd.rings.get ((0 : Nat) + (Int.toNat x.fst.Ring))).x.s.x.l.n (fun i2 => (V.cons (V.int IntKind.u64 ((x.snd.snd.rings.get ((0 : Nat) + (Int.toNat x.fst.Ring))).x.s.x.l.get i2).AQ) (V.cons (V.int IntKind.u64 ((x.snd.snd.rings.get ((0 : Nat) + (Int.toNat x.fst.Ring))).x.s.x.l.get i2).Value) (V.cons (V.int IntKind.i64 ((x.snd.snd.rings.get ((0 : Nat) + (Int.toNat x.fst.Ring))).x.s.x.l.get i2).Left) V.unit))))) (V.cons (V.int IntKind.i64 (x.snd.snd.rings.get ((0 : Nat) + (Int.toNat x.fst.Ring))).x.s.x.AP) V.unit))) (V.cons (V.int IntKind.u64 (x.snd.snd.rings.get ((0 : Nat) + (Int.toNat x.fst.Ring))).x.most) (V.cons (V.bool (x.snd.snd.rings.get ((0 : Nat) + (Int.toNat x.fst.Ring))).x.closed) V.unit))))) ∧ ((fun v : V => v = v) (V.Aa (x.snd.snd.rings.get ((0 : Nat) + (Int.toNat x.fst.Ring))).nil (V.cons (V.cons (V.int IntKind.u64 (x.snd.snd.rings.get ((0 : Nat) + (Int.toNat x.fst.Ring))).x.AA.tail) (V.cons (V.Aq 36 1 (x.snd.snd.rings.get ((0 : Nat) + (Int.toNat x.fst.Ring))).x.AA.AB.nil (x.snd.snd.rings.get ((0 : Nat) + (Int.toNat x.fst.Ring))).x.AA.AB.n (fun i2 => (V.int IntKind.u64 ((x.snd.snd.rings.get ((0 : Nat) + (Int.toNat x.fst.Ring))).x.AA.AB.get i2)))) V.unit)) (V.cons (V.Aa (x.snd.snd.rings.get ((0 : Nat) + (Int.toNat x.fst.Ring))).x.s.nil (V.cons (V.Aq 115 3 (x.snd.snd.rings.get ((0 : Nat) + (Int.toNat x.fst.Ring))).x.s.x.l.nil (x.snd.snd.rings.get ((0 : Nat) + (Int.toNat x.fst.Ring))).x.s.x.l.n (fun i2 => (V.cons (V.int IntKind.u64 ((x.snd.snd.rings.get ((0 : Nat) + (Int.toNat x.fst.Ring))).x.s.x.l.get i2).AQ) (V.cons (V.int IntKind.u64 ((x.snd.snd.rings.get ((0 : Nat) + (Int.toNat x.fst.Ring))).x.s.x.l.get i2).Value) (V.cons (V.int IntKind.i64 ((x.snd.snd.rings.get ((0 : Nat) + (Int.toNat x.fst.Ring))).x.s.x.l.get i2).Left) V.unit))))) (V.cons (V.int IntKind.i64 (x.snd.snd.rings.get ((0 : Nat) + (Int.toNat x.fst.Ring))).x.s.x.AP) V.unit))) (V.cons (V.int IntKind.u64 (x.snd.snd.rings.get ((0 : Nat) + (Int.toNat x.fst.Ring))).x.most) (V.cons (V.bool (x.snd.snd.rings.get ((0 : Nat) + (Int.toNat x.fst.Ring))).x.closed) V.unit)))))))) <|
 (.need ((true && true) && (Nat.beq x.snd.snd.rings.n x.snd.snd.rings.n)) <|
 (.ret (false, x.snd.snd)))))))
 (.ite (Ad x.fst.Kind 2)
 (.call con_f1t (x.fst.AJ, (x.snd.snd.rings.get ((0 : Nat) + (Int.toNat x.fst.Ring))).x) fun (y1 : R_f1t) =>
 (.need ((true && true) && (((Nat.beq x.snd.snd.rings.n x.snd.snd.rings.n) && (Nat.blt ((0 : Nat) + (Int.toNat x.fst.Ring)) x.snd.snd.rings.n)) && (!(x.snd.snd.rings.get ((0 : Nat) + (Int.toNat x.fst.Ring))).nil))) <|
 (.side (((fun v : Nat → V => v = v) (fun i2 => (cond (Nat.beq i2 ((0 : Nat) + (Int.toNat x.fst.Ring))) (V.ptr (Id.loc 15 0) List.nil) (V.Aa (x.snd.snd.rings.get i2).nil (V.cons (V.cons (V.int IntKind.u64 (x.snd.snd.rings.get i2).x.AA.tail) (V.cons (V.Aq 36 1 (x.snd.snd.rings.get i2).x.AA.AB.nil (x.snd.snd.rings.get i2).x.AA.AB.n (fun i3 => (V.int IntKind.u64 ((x.snd.snd.rings.get i2).x.AA.AB.get i3)))) V.unit)) (V.cons (V.Aa (x.snd.snd.rings.get i2).x.s.nil (V.cons (V.Aq 115 3 (x.snd.snd.rings.get i2).x.s.x.l.nil (x.snd.snd.rings.get i2).x.s.x.l.n (fun i3 => (V.cons (V.int IntKind.u64 ((x.snd.snd.rings.get i2).x.s.x.l.get i3).AQ) (V.cons (V.int IntKind.u64 ((x.snd.snd.rings.get i2).x.s.x.l.get i3).Value) (V.cons (V.int IntKind.i64 ((x.snd.snd.rings.get i2).x.s.x.l.get i3).Left) V.unit))))) (V.cons (V.int IntKind.i64 (x.snd.snd.rings.get i2).x.s.x.AP) V.unit))) (V.cons (V.int IntKind.u64 (x.snd.snd.rings.get i2).x.most) (V.cons (V.bool (x.snd.snd.rings.get i2).x.closed) V.unit)))))))) ∧ (((fun v : V => v = v) (V.cons (V.cons (V.int IntKind.u64 (x.snd.snd.rings.get ((0 : Nat) + (Int.toNat x.fst.Ring))).x.AA.tail) (V.cons (V.Aq 36 1 (x.snd.snd.rings.get ((0 : Nat) + (Int.toNat x.fst.Ring))).x.AA.AB.nil (x.snd.snd.rings.get ((0 : Nat) + (Int.toNat x.fst.Ring))).x.AA.AB.n (fun i2 => (V.int IntKind.u64 ((x.snd.snd.rings.get ((0 : Nat) + (Int.toNat x.fst.Ring))).x.AA.AB.get i2)))) V.unit)) (V.cons (V.Aa (x.snd.snd.rings.get ((0 : Nat) + (Int.toNat x.fst.Ring))).x.s.nil (V.cons (V.Aq 115 3 (x.snd.snd.rings.get ((0 : Nat) + (Int.toNat x.fst.Ring))).x.s.x.l.nil (x.snd.snd.rings.get ((0 : Nat) + (Int.toNat x.fst.Ring))).x.s.x.l.n (fun i2 => (V.cons (V.int IntKind.u64 ((x.snd.snd.rings.get ((0 : Nat) + (Int.toNat x.fst.Ring))).x.s.x.l.get i2).AQ) (V.cons (V.int IntKind.u64 ((x.snd.snd.rings.get ((0 : Nat) + (Int.toNat x.fst.Ring))).x.s.x.l.get i2).Value) (V.cons (V.int IntKind.i64 ((x.snd.snd.rings.get ((0 : Nat) + (Int.toNat x.fst.Ring))).x.s.x.l.get i2).Left) V.unit))))) (V.cons (V.int IntKind.i64 (x.snd.snd.rings.get ((0 : Nat) + (Int.toNat x.fst.Ring))).x.s.x.AP) V.unit))) (V.cons (V.int IntKind.u64 (x.snd.snd.rings.get ((0 : Nat) + (Int.toNat x.fst.Ring))).x.most) (V.cons (V.bool (x.snd.snd.rings.get ((0 : Nat) + (Int.toNat x.fst.Ring))).x.closed) V.unit))))) ∧ ((fun v : V => v = v) (V.Aa (x.snd.snd.rings.get ((0 : Nat) + (Int.toNat x.fst.Ring))).nil (V.cons (V.cons (V.int IntKind.u64 (x.snd.snd.rings.get ((0 : Nat) + (Int.toNat x.fst.Ring))).x.AA.tail) (V.cons (V.Aq 36 1 (x.snd.snd.rings.get ((0 : Nat) + (Int.toNat x.fst.Ring))).x.AA.AB.nil (x.snd.snd.rings.get ((0 : Nat) + (Int.toNat x.fst.Ring))).x.AA.AB.n (fun i2 => (V.int IntKind.u64 ((x.snd.snd.rings.get ((0 : Nat) + (Int.toNat x.fst.Ring))).x.AA.AB.get i2)))) V.unit)) (V.cons (V.Aa (x.snd.snd.rings.get ((0 : Nat) + (Int.toNat x.fst.Ring))).x.s.nil (V.cons (V.Aq 115 3 (x.snd.snd.rings.get ((0 : Nat) + (Int.toNat x.fst.Ring))).x.s.x.l.nil (x.snd.snd.rings.get ((0 : Nat) + (Int.toNat x.fst.Ring))).x.s.x.l.n (fun i2 => (V.cons (V.int IntKind.u64 ((x.snd.snd.rings.get ((0 : Nat) + (Int.toNat x.fst.Ring))).x.s.x.l.get i2).AQ) (V.cons (V.int IntKind.u64 ((x.snd.snd.rings.get ((0 : Nat) + (Int.toNat x.fst.Ring))).x.s.x.l.get i2).Value) (V.cons (V.int IntKind.i64 ((x.snd.snd.rings.get ((0 : Nat) + (Int.toNat x.fst.Ring))).x.s.x.l.get i2).Left) V.unit))))) (V.cons (V.int IntKind.i64 (x.snd.snd.rings.get ((0 : Nat) + (Int.toNat x.fst.Ring))).x.s.x.AP) V.unit))) (V.cons (V.int IntKind.u64 (x.snd.snd.rings.get ((0 : Nat) + (Int.toNat x.fst.Ring))).x.most) (V.cons (V.bool (x.snd.snd.rings.get ((0 : Nat) + (Int.toNat x.fst.Ring))).x.closed) V.unit)))))))) <|
 (.need ((true && true) && (Nat.beq x.snd.snd.rings.n x.snd.snd.rings.n)) <|
 (.ret (y1, x.snd.snd))))))
 (.ite (Ad x.fst.Kind 3)
 (.call con_f15 (x.snd.fst.Reader, (x.snd.snd.rings.get ((0 : Nat) + (Int.toNat x.fst.Ring))).x) fun (y1 : R_f15) =>
 (.ite (!y1)
 (.call con_fk (x.snd.fst.Reader, (x.snd.snd.rings.get ((0 : Nat) + (Int.toNat x.fst.Ring))).x) fun (y2 : R_fk) =>
 (.need ((true && true) && (((Nat.beq x.snd.snd.rings.n x.snd.snd.rings.n) && (Nat.blt ((0 : Nat) + (Int.toNat x.fst.Ring)) x.snd.snd.rings.n)) && (!(x.snd.snd.rings.get ((0 : Nat) + (Int.toNat x.fst.Ring))).nil))) <|
 (.side (((fun v : Nat → V => v = v) (fun i3 => (cond (Nat.beq i3 ((0 : Nat) + (Int.toNat x.fst.Ring))) (V.ptr (Id.loc 15 0) List.nil) (V.Aa (x.snd.snd.rings.get i3).nil (V.cons (V.cons (V.int IntKind.u64 (x.snd.snd.rings.get i3).x.AA.tail) (V.cons (V.Aq 36 1 (x.snd.snd.rings.get i3).x.AA.AB.nil (x.snd.snd.rings.get i3).x.AA.AB.n (fun i4 => (V.int IntKind.u64 ((x.snd.snd.rings.get i3).x.AA.AB.get i4)))) V.unit)) (V.cons (V.Aa (x.snd.snd.rings.get i3).x.s.nil (V.cons (V.Aq 115 3 (x.snd.snd.rings.get i3).x.s.x.l.nil (x.snd.snd.rings.get i3).x.s.x.l.n (fun i4 => (V.cons (V.int IntKind.u64 ((x.snd.snd.rings.get i3).x.s.x.l.get i4).AQ) (V.cons (V.int IntKind.u64 ((x.snd.snd.rings.get i3).x.s.x.l.get i4).Value) (V.cons (V.int IntKind.i64 ((x.snd.snd.rings.get i3).x.s.x.l.get i4).Left) V.unit))))) (V.cons (V.int IntKind.i64 (x.snd.snd.rings.get i3).x.s.x.AP) V.unit))) (V.cons (V.int IntKind.u64 (x.snd.snd.rings.get i3).x.most) (V.cons (V.bool (x.snd.snd.rings.get i3).x.closed) V.unit)))))))) ∧ (((fun v : V => v = v) (V.cons (V.cons (V.int IntKind.u64 (x.snd.snd.rings.get ((0 : Nat) + (Int.toNat x.fst.Ring))).x.AA.tail) (V.cons (V.Aq 36 1 (x.snd.snd.rings.get ((0 : Nat) + (Int.toNat x.fst.Ring))).x.AA.AB.nil (x.snd.snd.rings.get ((0 : Nat) + (Int.toNat x.fst.Ring))).x.AA.AB.n (fun i3 => (V.int IntKind.u64 ((x.snd.snd.rings.get ((0 : Nat) + (Int.toNat x.fst.Ring))).x.AA.AB.get i3)))) V.unit)) (V.cons (V.Aa (x.snd.snd.rings.get ((0 : Nat) + (Int.toNat x.fst.Ring))).x.s.nil (V.cons (V.Aq 115 3 (x.snd.snd.rings.get ((0 : Nat) + (Int.toNat x.fst.Ring))).x.s.x.l.nil (x.snd.snd.rings.get ((0 : Nat) + (Int.toNat x.fst.Ring))).x.s.x.l.n (fun i3 => (V.cons (V.int IntKind.u64 ((x.snd.snd.rings.get ((0 : Nat) + (Int.toNat x.fst.Ring))).x.s.x.l.get i3).AQ) (V.cons (V.int IntKind.u64 ((x.snd.snd.rings.get ((0 : Nat) + (Int.toNat x.fst.Ring))).x.s.x.l.get i3).Value) (V.cons (V.int IntKind.i64 ((x.snd.snd.rings.get ((0 : Nat) + (Int.toNat x.fst.Ring))).x.s.x.l.get i3).Left) V.unit))))) (V.cons (V.int IntKind.i64 (x.snd.snd.rings.get ((0 : Nat) + (Int.toNat x.fst.Ring))).x.s.x.AP) V.unit))) (V.cons (V.int IntKind.u64 (x.snd.snd.rings.get ((0 : Nat) + (Int.toNat x.fst.Ring))).x.most) (V.cons (V.bool (x.snd.snd.rings.get ((0 : Nat) + (Int.toNat x.fst.Ring))).x.closed) V.unit))))) ∧ ((fun v : V => v = v) (V.Aa (x.snd.snd.rings.get ((0 : Nat) + (Int.toNat x.fst.Ring))).nil (V.cons (V.cons (V.int IntKind.u64 (x.snd.snd.rings.get ((0 : Nat) + (Int.toNat x.fst.Ring))).x.AA.tail) (V.cons (V.Aq 36 1 (x.snd.snd.rings.get ((0 : Nat) + (Int.toNat x.fst.Ring))).x.AA.AB.nil (x.snd.snd.rings.get ((0 : Nat) + (Int.toNat x.fst.Ring))).x.AA.AB.n (fun i3 => (V.int IntKind.u64 ((x.snd.snd.rings.get ((0 : Nat) + (Int.toNat x.fst.Ring))).x.AA.AB.get i3)))) V.unit)) (V.cons (V.Aa (x.snd.snd.rings.get ((0 : Nat) + (Int.toNat x.fst.Ring))).x.s.nil (V.cons (V.Aq 115 3 (x.snd.snd.rings.get ((0 : Nat) + (Int.toNat x.fst.Ring))).x.s.x.l.nil (x.snd.snd.rings.get ((0 : Nat) + (Int.toNat x.fst.Ring))).x.s.x.l.n (fun i3 => (V.cons (V.int IntKind.u64 ((x.snd.snd.rings.get ((0 : Nat) + (Int.toNat x.fst.Ring))).x.s.x.l.get i3).AQ) (V.cons (V.int IntKind.u64 ((x.snd.snd.rings.get ((0 : Nat) + (Int.toNat x.fst.Ring))).x.s.x.l.get i3).Value) (V.cons (V.int IntKind.i64 ((x.snd.snd.rings.get ((0 : Nat) + (Int.toNat x.fst.Ring))).x.s.x.l.get i3).Left) V.unit))))) (V.cons (V.int IntKind.i64 (x.snd.snd.rings.get ((0 : Nat) + (Int.toNat x.fst.Ring))).x.s.x.AP) V.unit))) (V.cons (V.int IntKind.u64 (x.snd.snd.rings.get ((0 : Nat) + (Int.toNat x.fst.Ring))).x.most) (V.cons (V.bool (x.snd.snd.rings.get ((0 : Nat) + (Int.toNat x.fst.Ring))).x.closed) V.unit)))))))) <|
 (.need ((true && true) && (Nat.beq x.snd.snd.rings.n x.snd.snd.rings.n)) <|
 (.ret ((Ad x.fst.AJ y2), x.snd.snd))))))
 (.need ((true && true) && (((Nat.beq x.snd.snd.rings.n x.snd.snd.rings.n) && (Nat.blt ((0 : Nat) + (Int.toNat x.fst.Ring)) x.snd.snd.rings.n)) && (!(x.snd.snd.rings.get ((0 : Nat) + (Int.toNat x.fst.Ring))).nil))) <|
 (.side (((fun v : Nat → V => v = v) (fun i2 => (cond (Nat.beq i2 ((0 : Nat) + (Int.toNat x.fst.Ring))) (V.ptr (Id.loc 15 0) List.nil) (V.Aa (x.snd.snd.rings.get i2).nil (V.cons (V.cons (V.int IntKind.u64 (x.snd.snd.rings.get i2).x.AA.tail) (V.cons (V.Aq 36 1 (x.snd.snd.rings.get i2).x.AA.AB.nil (x.snd.snd.rings.get i2).x.AA.AB.n (fun i3 => (V.int IntKind.u64 ((x.snd.snd.rings.get i2).x.AA.AB.get i3)))) V.unit)) (V.cons (V.Aa (x.snd.snd.rings.get i2).x.s.nil (V.cons (V.Aq 115 3 (x.snd.snd.rings.get i2).x.s.x.l.nil (x.snd.snd.rings.get i2).x.s.x.l.n (fun i3 => (V.cons (V.int IntKind.u64 ((x.snd.snd.rings.get i2).x.s.x.l.get i3).AQ) (V.cons (V.int IntKind.u64 ((x.snd.snd.rings.get i2).x.s.x.l.get i3).Value) (V.cons (V.int IntKind.i64 ((x.snd.snd.rings.get i2).x.s.x.l.get i3).Left) V.unit))))) (V.cons (V.int IntKind.i64 (x.snd.snd.rings.get i2).x.s.x.AP) V.unit))) (V.cons (V.int IntKind.u64 (x.snd.snd.rings.get i2).x.most) (V.cons (V.bool (x.snd.snd.rings.get i2).x.closed) V.unit)))))))) ∧ (((fun v : V => v = v) (V.cons (V.cons (V.int IntKind.u64 (x.snd.snd.rings.get ((0 : Nat) + (Int.toNat x.fst.Ring))).x.AA.tail) (V.cons (V.Aq 36 1 (x.snd.snd.rings.get ((0 : Nat) + (Int.toNat x.fst.Ring))).x.AA.AB.nil (x.snd.snd.rings.get ((0 : Nat) + (Int.toNat x.fst.Ring))).x.AA.AB.n (fun i2 => (V.int IntKind.u64 ((x.snd.snd.rings.get ((0 : Nat) + (Int.toNat x.fst.Ring))).x.AA.AB.get i2)))) V.unit)) (V.cons (V.Aa (x.snd.snd.rings.get ((0 : Nat) + (Int.toNat x.fst.Ring))).x.s.nil (V.cons (V.Aq 115 3 (x.snd.snd.rings.get ((0 : Nat) + (Int.toNat x.fst.Ring))).x.s.x.l.nil (x.snd.snd.rings.get ((0 : Nat) + (Int.toNat x.fst.Ring))).x.s.x.l.n (fun i2 => (V.cons (V.int IntKind.u64 ((x.snd.snd.rings.get ((0 : Nat) + (Int.toNat x.fst.Ring))).x.s.x.l.get i2).AQ) (V.cons (V.int IntKind.u64 ((x.snd.snd.rings.get ((0 : Nat) + (Int.toNat x.fst.Ring))).x.s.x.l.get i2).Value) (V.cons (V.int IntKind.i64 ((x.snd.snd.rings.get ((0 : Nat) + (Int.toNat x.fst.Ring))).x.s.x.l.get i2).Left) V.unit))))) (V.cons (V.int IntKind.i64 (x.snd.snd.rings.get ((0 : Nat) + (Int.toNat x.fst.Ring))).x.s.x.AP) V.unit))) (V.cons (V.int IntKind.u64 (x.snd.snd.rings.get ((0 : Nat) + (Int.toNat x.fst.Ring))).x.most) (V.cons (V.bool (x.snd.snd.rings.get ((0 : Nat) + (Int.toNat x.fst.Ring))).x.closed) V.unit))))) ∧ ((fun v : V => v = v) (V.Aa (x.snd.snd.rings.get ((0 : Nat) + (Int.toNat x.fst.Ring))).nil (V.cons (V.cons (V.int IntKind.u64 (x.snd.snd.rings.get ((0 : Nat) + (Int.toNat x.fst.Ring))).x.AA.tail) (V.cons (V.Aq 36 1 (x.snd.snd.rings.get ((0 : Nat) + (Int.toNat x.fst.Ring))).x.AA.AB.nil (x.snd.snd.rings.get ((0 : Nat) + (Int.toNat x.fst.Ring))).x.AA.AB.n (fun i2 => (V.int IntKind.u64 ((x.snd.snd.rings.get ((0 : Nat) + (Int.toNat x.fst.Ring))).x.AA.AB.get i2)))) V.unit)) (V.cons (V.Aa (x.snd.snd.rings.get ((0 : Nat) + (Int.toNat x.fst.Ring))).x.s.nil (V.cons (V.Aq 115 3 (x.snd.snd.rings.get ((0 : Nat) + (Int.toNat x.fst.Ring))).x.s.x.l.nil (x.snd.snd.rings.get ((0 : Nat) + (Int.toNat x.fst.Ring))).x.s.x.l.n (fun i2 => (V.cons (V.int IntKind.u64 ((x.snd.snd.rings.get ((0 : Nat) + (Int.toNat x.fst.Ring))).x.s.x.l.get i2).AQ) (V.cons (V.int IntKind.u64 ((x.snd.snd.rings.get ((0 : Nat) + (Int.toNat x.fst.Ring))).x.s.x.l.get i2).Value) (V.cons (V.int IntKind.i64 ((x.snd.snd.rings.get ((0 : Nat) + (Int.toNat x.fst.Ring))).x.s.x.l.get i2).Left) V.unit))))) (V.cons (V.int IntKind.i64 (x.snd.snd.rings.get ((0 : Nat) + (Int.toNat x.fst.Ring))).x.s.x.AP) V.unit))) (V.cons (V.int IntKind.u64 (x.snd.snd.rings.get ((0 : Nat) + (Int.toNat x.fst.Ring))).x.most) (V.cons (V.bool (x.snd.snd.rings.get ((0 : Nat) + (Int.toNat x.fst.Ring))).x.closed) V.unit)))))))) <|
 (.need ((true && true) && (Nat.beq x.snd.snd.rings.n x.snd.snd.rings.n)) <|
 (.ret (false, x.snd.snd)))))))
 (.ite (Ad x.fst.Kind 4)
 (.call con_f1z (x.snd.fst.Reader, (x.fst.AJ, (x.snd.snd.rings.get ((0 : Nat) + (Int.toNat x.fst.Ring))).x)) fun (y1 : R_f1z) =>
 (.need ((true && true) && (((Nat.beq x.snd.snd.rings.n x.snd.snd.rings.n) && (Nat.blt ((0 : Nat) + (Int.toNat x.fst.Ring)) x.snd.snd.rings.n)) && (!(x.snd.snd.rings.get ((0 : Nat) + (Int.toNat x.fst.Ring))).nil))) <|
 (.side (((fun v : Nat → V => v = v) (fun i2 => (cond (Nat.beq i2 ((0 : Nat) + (Int.toNat x.fst.Ring))) (V.ptr (Id.loc 15 0) List.nil) (V.Aa (x.snd.snd.rings.get i2).nil (V.cons (V.cons (V.int IntKind.u64 (x.snd.snd.rings.get i2).x.AA.tail) (V.cons (V.Aq 36 1 (x.snd.snd.rings.get i2).x.AA.AB.nil (x.snd.snd.rings.get i2).x.AA.AB.n (fun i3 => (V.int IntKind.u64 ((x.snd.snd.rings.get i2).x.AA.AB.get i3)))) V.unit)) (V.cons (V.Aa (x.snd.snd.rings.get i2).x.s.nil (V.cons (V.Aq 115 3 (x.snd.snd.rings.get i2).x.s.x.l.nil (x.snd.snd.rings.get i2).x.s.x.l.n (fun i3 => (V.cons (V.int IntKind.u64 ((x.snd.snd.rings.get i2).x.s.x.l.get i3).AQ) (V.cons (V.int IntKind.u64 ((x.snd.snd.rings.get i2).x.s.x.l.get i3).Value) (V.cons (V.int IntKind.i64 ((x.snd.snd.rings.get i2).x.s.x.l.get i3).Left) V.unit))))) (V.cons (V.int IntKind.i64 (x.snd.snd.rings.get i2).x.s.x.AP) V.unit))) (V.cons (V.int IntKind.u64 (x.snd.snd.rings.get i2).x.most) (V.cons (V.bool (x.snd.snd.rings.get i2).x.closed) V.unit)))))))) ∧ (((fun v : V => v = v) (V.cons (V.cons (V.int IntKind.u64 (x.snd.snd.rings.get ((0 : Nat) + (Int.toNat x.fst.Ring))).x.AA.tail) (V.cons (V.Aq 36 1 (x.snd.snd.rings.get ((0 : Nat) + (Int.toNat x.fst.Ring))).x.AA.AB.nil (x.snd.snd.rings.get ((0 : Nat) + (Int.toNat x.fst.Ring))).x.AA.AB.n (fun i2 => (V.int IntKind.u64 ((x.snd.snd.rings.get ((0 : Nat) + (Int.toNat x.fst.Ring))).x.AA.AB.get i2)))) V.unit)) (V.cons (V.Aa (x.snd.snd.rings.get ((0 : Nat) + (Int.toNat x.fst.Ring))).x.s.nil (V.cons (V.Aq 115 3 (x.snd.snd.rings.get ((0 : Nat) + (Int.toNat x.fst.Ring))).x.s.x.l.nil (x.snd.snd.rings.get ((0 : Nat) + (Int.toNat x.fst.Ring))).x.s.x.l.n (fun i2 => (V.cons (V.int IntKind.u64 ((x.snd.snd.rings.get ((0 : Nat) + (Int.toNat x.fst.Ring))).x.s.x.l.get i2).AQ) (V.cons (V.int IntKind.u64 ((x.snd.snd.rings.get ((0 : Nat) + (Int.toNat x.fst.Ring))).x.s.x.l.get i2).Value) (V.cons (V.int IntKind.i64 ((x.snd.snd.rings.get ((0 : Nat) + (Int.toNat x.fst.Ring))).x.s.x.l.get i2).Left) V.unit))))) (V.cons (V.int IntKind.i64 (x.snd.snd.rings.get ((0 : Nat) + (Int.toNat x.fst.Ring))).x.s.x.AP) V.unit))) (V.cons (V.int IntKind.u64 (x.snd.snd.rings.get ((0 : Nat) + (Int.toNat x.fst.Ring))).x.most) (V.cons (V.bool (x.snd.snd.rings.get ((0 : Nat) + (Int.toNat x.fst.Ring))).x.closed) V.unit))))) ∧ ((fun v : V => v = v) (V.Aa (x.snd.snd.rings.get ((0 : Nat) + (Int.toNat x.fst.Ring))).nil (V.cons (V.cons (V.int IntKind.u64 (x.snd.snd.rings.get ((0 : Nat) + (Int.toNat x.fst.Ring))).x.AA.tail) (V.cons (V.Aq 36 1 (x.snd.snd.rings.get ((0 : Nat) + (Int.toNat x.fst.Ring))).x.AA.AB.nil (x.snd.snd.rings.get ((0 : Nat) + (Int.toNat x.fst.Ring))).x.AA.AB.n (fun i2 => (V.int IntKind.u64 ((x.snd.snd.rings.get ((0 : Nat) + (Int.toNat x.fst.Ring))).x.AA.AB.get i2)))) V.unit)) (V.cons (V.Aa (x.snd.snd.rings.get ((0 : Nat) + (Int.toNat x.fst.Ring))).x.s.nil (V.cons (V.Aq 115 3 (x.snd.snd.rings.get ((0 : Nat) + (Int.toNat x.fst.Ring))).x.s.x.l.nil (x.snd.snd.rings.get ((0 : Nat) + (Int.toNat x.fst.Ring))).x.s.x.l.n (fun i2 => (V.cons (V.int IntKind.u64 ((x.snd.snd.rings.get ((0 : Nat) + (Int.toNat x.fst.Ring))).x.s.x.l.get i2).AQ) (V.cons (V.int IntKind.u64 ((x.snd.snd.rings.get ((0 : Nat) + (Int.toNat x.fst.Ring))).x.s.x.l.get i2).Value) (V.cons (V.int IntKind.i64 ((x.snd.snd.rings.get ((0 : Nat) + (Int.toNat x.fst.Ring))).x.s.x.l.get i2).Left) V.unit))))) (V.cons (V.int IntKind.i64 (x.snd.snd.rings.get ((0 : Nat) + (Int.toNat x.fst.Ring))).x.s.x.AP) V.unit))) (V.cons (V.int IntKind.u64 (x.snd.snd.rings.get ((0 : Nat) + (Int.toNat x.fst.Ring))).x.most) (V.cons (V.bool (x.snd.snd.rings.get ((0 : Nat) + (Int.toNat x.fst.Ring))).x.closed) V.unit)))))))) <|
 (.need ((true && true) && (Nat.beq x.snd.snd.rings.n x.snd.snd.rings.n)) <|
 (.ret (y1, x.snd.snd))))))
 (.call con_f1k (x.snd.snd.rings.get ((0 : Nat) + (Int.toNat x.fst.Ring))).x fun (y1 : R_f1k) =>
 (.need ((true && true) && (((Nat.beq x.snd.snd.rings.n x.snd.snd.rings.n) && (Nat.blt ((0 : Nat) + (Int.toNat x.fst.Ring)) x.snd.snd.rings.n)) && (!(x.snd.snd.rings.get ((0 : Nat) + (Int.toNat x.fst.Ring))).nil))) <|
 (.side (((fun v : Nat → V => v = v) (fun i2 => (cond (Nat.beq i2 ((0 : Nat) + (Int.toNat x.fst.Ring))) (V.ptr (Id.loc 15 0) List.nil) (V.Aa (x.snd.snd.rings.get i2).nil (V.cons (V.cons (V.int IntKind.u64 (x.snd.snd.rings.get i2).x.AA.tail) (V.cons (V.Aq 36 1 (x.snd.snd.rings.get i2).x.AA.AB.nil (x.snd.snd.rings.get i2).x.AA.AB.n (fun i3 => (V.int IntKind.u64 ((x.snd.snd.rings.get i2).x.AA.AB.get i3)))) V.unit)) (V.cons (V.Aa (x.snd.snd.rings.get i2).x.s.nil (V.cons (V.Aq 115 3 (x.snd.snd.rings.get i2).x.s.x.l.nil (x.snd.snd.rings.get i2).x.s.x.l.n (fun i3 => (V.cons (V.int IntKind.u64 ((x.snd.snd.rings.get i2).x.s.x.l.get i3).AQ) (V.cons (V.int IntKind.u64 ((x.snd.snd.rings.get i2).x.s.x.l.get i3).Value) (V.cons (V.int IntKind.i64 ((x.snd.snd.rings.get i2).x.s.x.l.get i3).Left) V.unit))))) (V.cons (V.int IntKind.i64 (x.snd.snd.rings.get i2).x.s.x.AP) V.unit))) (V.cons (V.int IntKind.u64 (x.snd.snd.rings.get i2).x.most) (V.cons (V.bool (x.snd.snd.rings.get i2).x.closed) V.unit)))))))) ∧ (((fun v : V => v = v) (V.cons (V.cons (V.int IntKind.u64 (x.snd.snd.rings.get ((0 : Nat) + (Int.toNat x.fst.Ring))).x.AA.tail) (V.cons (V.Aq 36 1 (x.snd.snd.rings.get ((0 : Nat) + (Int.toNat x.fst.Ring))).x.AA.AB.nil (x.snd.snd.rings.get ((0 : Nat) + (Int.toNat x.fst.Ring))).x.AA.AB.n (fun i2 => (V.int IntKind.u64 ((x.snd.snd.rings.get ((0 : Nat) + (Int.toNat x.fst.Ring))).x.AA.AB.get i2)))) V.unit)) (V.cons (V.Aa (x.snd.snd.rings.get ((0 : Nat) + (Int.toNat x.fst.Ring))).x.s.nil (V.cons (V.Aq 115 3 (x.snd.snd.rings.get ((0 : Nat) + (Int.toNat x.fst.Ring))).x.s.x.l.nil (x.snd.snd.rings.get ((0 : Nat) + (Int.toNat x.fst.Ring))).x.s.x.l.n (fun i2 => (V.cons (V.int IntKind.u64 ((x.snd.snd.rings.get ((0 : Nat) + (Int.toNat x.fst.Ring))).x.s.x.l.get i2).AQ) (V.cons (V.int IntKind.u64 ((x.snd.snd.rings.get ((0 : Nat) + (Int.toNat x.fst.Ring))).x.s.x.l.get i2).Value) (V.cons (V.int IntKind.i64 ((x.snd.snd.rings.get ((0 : Nat) + (Int.toNat x.fst.Ring))).x.s.x.l.get i2).Left) V.unit))))) (V.cons (V.int IntKind.i64 (x.snd.snd.rings.get ((0 : Nat) + (Int.toNat x.fst.Ring))).x.s.x.AP) V.unit))) (V.cons (V.int IntKind.u64 (x.snd.snd.rings.get ((0 : Nat) + (Int.toNat x.fst.Ring))).x.most) (V.cons (V.bool (x.snd.snd.rings.get ((0 : Nat) + (Int.toNat x.fst.Ring))).x.closed) V.unit))))) ∧ ((fun v : V => v = v) (V.Aa (x.snd.snd.rings.get ((0 : Nat) + (Int.toNat x.fst.Ring))).nil (V.cons (V.cons (V.int IntKind.u64 (x.snd.snd.rings.get ((0 : Nat) + (Int.toNat x.fst.Ring))).x.AA.tail) (V.cons (V.Aq 36 1 (x.snd.snd.rings.get ((0 : Nat) + (Int.toNat x.fst.Ring))).x.AA.AB.nil (x.snd.snd.rings.get ((0 : Nat) + (Int.toNat x.fst.Ring))).x.AA.AB.n (fun i2 => (V.int IntKind.u64 ((x.snd.snd.rings.get ((0 : Nat) + (Int.toNat x.fst.Ring))).x.AA.AB.get i2)))) V.unit)) (V.cons (V.Aa (x.snd.snd.rings.get ((0 : Nat) + (Int.toNat x.fst.Ring))).x.s.nil (V.cons (V.Aq 115 3 (x.snd.snd.rings.get ((0 : Nat) + (Int.toNat x.fst.Ring))).x.s.x.l.nil (x.snd.snd.rings.get ((0 : Nat) + (Int.toNat x.fst.Ring))).x.s.x.l.n (fun i2 => (V.cons (V.int IntKind.u64 ((x.snd.snd.rings.get ((0 : Nat) + (Int.toNat x.fst.Ring))).x.s.x.l.get i2).AQ) (V.cons (V.int IntKind.u64 ((x.snd.snd.rings.get ((0 : Nat) + (Int.toNat x.fst.Ring))).x.s.x.l.get i2).Value) (V.cons (V.int IntKind.i64 ((x.snd.snd.rings.get ((0 : Nat) + (Int.toNat x.fst.Ring))).x.s.x.l.get i2).Left) V.unit))))) (V.cons (V.int IntKind.i64 (x.snd.snd.rings.get ((0 : Nat) + (Int.toNat x.fst.Ring))).x.s.x.AP) V.unit))) (V.cons (V.int IntKind.u64 (x.snd.snd.rings.get ((0 : Nat) + (Int.toNat x.fst.Ring))).x.most) (V.cons (V.bool (x.snd.snd.rings.get ((0 : Nat) + (Int.toNat x.fst.Ring))).x.closed) V.unit)))))))) <|
 (.need ((true && true) && (Nat.beq x.snd.snd.rings.n x.snd.snd.rings.n)) <|
 (.ret ((Ad x.fst.AJ y1), x.snd.snd))))))))))))
theorem sd_fx (x : X_fx) : (tt_fx x).AH :=
 (TT.sN (TT.sN (TT.sI (TT.sC fun _ => (TT.sI (TT.sC fun _ => (TT.sN (TT.sS ⟨rfl, ⟨rfl, rfl⟩⟩ (TT.sN TT.sR)))) (TT.sN (TT.sS ⟨rfl, ⟨rfl, rfl⟩⟩ (TT.sN TT.sR))))) (TT.sI (TT.sC fun _ => (TT.sN (TT.sS ⟨rfl, ⟨rfl, rfl⟩⟩ (TT.sN TT.sR)))) (TT.sI (TT.sC fun _ => (TT.sI (TT.sC fun _ => (TT.sN (TT.sS ⟨rfl, ⟨rfl, rfl⟩⟩ (TT.sN TT.sR)))) (TT.sN (TT.sS ⟨rfl, ⟨rfl, rfl⟩⟩ (TT.sN TT.sR))))) (TT.sI (TT.sC fun _ => (TT.sN (TT.sS ⟨rfl, ⟨rfl, rfl⟩⟩ (TT.sN TT.sR)))) (TT.sC fun _ => (TT.sN (TT.sS ⟨rfl, ⟨rfl, rfl⟩⟩ (TT.sN TT.sR))))))))))
theorem roT_fx (x : X_fx) : TT.Ro p_fx (w_fx x) (tt_fx x) :=
 (TT.rN (TT.rN (TT.rI (TT.rC fun _ => (TT.rI (TT.rC fun _ => (TT.rN (TT.rS (TT.rN (TT.rR rfl))))) (TT.rN (TT.rS (TT.rN (TT.rR rfl)))))) (TT.rI (TT.rC fun _ => (TT.rN (TT.rS (TT.rN (TT.rR rfl))))) (TT.rI (TT.rC fun _ => (TT.rI (TT.rC fun _ => (TT.rN (TT.rS (TT.rN (TT.rR rfl))))) (TT.rN (TT.rS (TT.rN (TT.rR rfl)))))) (TT.rI (TT.rC fun _ => (TT.rN (TT.rS (TT.rN (TT.rR rfl))))) (TT.rC fun _ => (TT.rN (TT.rS (TT.rN (TT.rR rfl)))))))))))
def D_fx : AV X_fx R_fx := .ro (.of tt_fx) (fun y => (y.1)) (fun y x => (y, x.2.2)) fun x y h => congrArg (fun o => (y.1, o)) (roT_fx x y h)
def con_fx : BC Tryz.prog :=
 Cb 31 J_fx S_fx (.of tt_fx) D_fx (fun y x => (y, x.2.2)) (fun y => V.bool y) 3 1 [.any, .any, .any] (lk mxk lbn sd_fx) (fun x => ⟨(nu_e_TFa : ∀ y, (e_TFa y).CB) (x.2.2), trivial⟩)
abbrev X_f24 : Type := TEv
abbrev R_f24 : Type := Bool
def J_f24 : BH Tryz.prog :=
 BR Tryz.prog Tryz.f32 11 [(1, 3)] [] [] [] [.any] [] [] R_f24 [] fun y => [V.bool y]
def S_f24 : AR :=
 Aj Tryz.f32 1 0 X_f24 (fun x => [e_TEv x]) fun l => (d_TEv (at_ l 0))
def tt_f24 (x : X_f24) : TT Tryz.prog R_f24 :=
 (.ite (Bh x.Kind 4)
 (.ret true)
 (.ret (Ad x.Kind 13)))
theorem sd_f24 (x : X_f24) : (tt_f24 x).AH :=
 (TT.sI TT.sR TT.sR)
def D_f24 : AV X_f24 R_f24 := .of tt_f24
def con_f24 : BC Tryz.prog :=
 CH 32 J_f24 S_f24 D_f24 1 0 [.any] (lk mxk lbn sd_f24)
abbrev X_fc : Type := TEv × TFa
abbrev R_fc : Type := Bool
abbrev RR_fc : Type := Bool × TFa
abbrev p_fc (y : RR_fc) : TFa := y.2
abbrev w_fc (x : X_fc) : TFa := x.2
def J_fc : BH Tryz.prog :=
 BR Tryz.prog Tryz.f13 103 [(3, 3)] [(8, [.back (.loc 30 0), .back (.loc 26 0)]), (9, [.back (.loc 30 0), .back (.loc 26 0)]), (10, [.back (.loc 47 0), .back (.loc 43 0), .back (.loc 30 0), .back (.loc 26 0)]), (11, [.back (.loc 47 0), .back (.loc 43 0), .back (.loc 30 0), .back (.loc 26 0)]), (12, [.back (.loc 47 0), .back (.loc 43 0), .back (.loc 30 0), .back (.loc 26 0)]), (13, [.back (.loc 47 0), .back (.loc 43 0), .back (.loc 30 0), .back (.loc 26 0)]), (14, [.back (.loc 47 0), .back (.loc 43 0), .back (.loc 30 0), .back (.loc 26 0)]), (15, [.back (.loc 47 0), .back (.loc 43 0), .back (.loc 30 0), .back (.loc 26 0)]), (16, [.back (.loc 90 0), .back (.loc 86 0), .back (.loc 47 0), .back (.loc 43 0), .back (.loc 30 0), .back (.loc 26 0)])] [] [.back (.loc 90 0), .back (.loc 86 0), .back (.loc 47 0), .back (.loc 43 0), .back (.loc 30 0), .back (.loc 26 0)] [.any] [sh_TFa] [con_fw, con_fy, con_fx, con_fs, con_f24, con_f14] RR_fc [] fun y => [V.bool y.1, e_TFa y.2]
def S_fc : AR :=
 Aj Tryz.f13 2 1 X_fc (fun x => [(V.ptr (.par 0) []), e_TEv x.1, e_TFa x.2]) fun l => (d_TEv (at_ l 1), d_TFa (at_ l 2))
structure X_fc_16 where
 E8 : TEv
 Ae : TFa
 E3 : TAk
def S_fc_16 : AR :=
 Ak Tryz.f13 16 (an [0, 3, 5]) [sh_TFa] [(.loc 5 0, .any)] X_fc_16 (fun x => [(V.ptr (.par 0) []), (DQ e_TEv) x.E8, (V.ptr (.loc 5 0) []), e_TFa x.Ae, e_TAk x.E3]) fun l => ⟨(DR d_TEv) (at_ l 1), d_TFa (at_ l 3), d_TAk (at_ l 4)⟩
abbrev w_fc_16 (x : X_fc_16) : TFa := (x.Ae)
def tt_fc_16 (x : X_fc_16) : TT Tryz.prog RR_fc :=
 (.call con_f24 x.E8 fun (y1 : R_f24) =>
 (.ite (!y1)
 (.ret (true, x.Ae))
 (.call con_fx (x.E8, (x.E3, x.Ae)) fun (y2 : R_fx) =>
 (.ret (y2, x.Ae)))))
theorem sd_fc_16 (x : X_fc_16) : (tt_fc_16 x).AH :=
 (TT.sC fun _ => (TT.sI TT.sR (TT.sC fun _ => TT.sR)))
theorem roT_fc_16 (x : X_fc_16) : TT.Ro p_fc (w_fc_16 x) (tt_fc_16 x) :=
 (TT.rC fun _ => (TT.rI (TT.rR rfl) (TT.rC fun _ => (TT.rR rfl))))
def D_fc_16 : AV X_fc_16 RR_fc := .of tt_fc_16
theorem ok_fc_16 : AZ J_fc S_fc_16 D_fc_16 :=
 lk mxk lbn sd_fc_16
theorem ro_fc_16 : ∀ x y, D_fc_16.rel x y → p_fc y = w_fc_16 x :=
 roT_fc_16 
def tt_fc (x : X_fc) : TT Tryz.prog RR_fc :=
 (.call con_fs (x.fst, x.snd) fun (y1 : R_fs) =>
 (.ite (!(Ad y1 0))
 (.ret (false, x.snd))
 (.call con_fw (x.fst.Thread, x.snd) fun (y2 : R_fw) =>
 (.ite (Ad x.fst.Kind 5)
 (.call con_fy (y2, x.snd) fun (y3 : R_fy) =>
 (.ite y3
 (.need (BA x.fst.Ring x.snd.rings.n) <|
 (.need (((Nat.beq x.snd.rings.n x.snd.rings.n) && true) && (!(x.snd.rings.get ((0 : Nat) + (Int.toNat x.fst.Ring))).nil)) <|
 (.call con_f14 (x.snd.rings.get ((0 : Nat) + (Int.toNat x.fst.Ring))).x fun (y4 : R_f14) =>
 (.need ((true && true) && (((Nat.beq x.snd.rings.n x.snd.rings.n) && (Nat.blt ((0 : Nat) + (Int.toNat x.fst.Ring)) x.snd.rings.n)) && (!(x.snd.rings.get ((0 : Nat) + (Int.toNat x.fst.Ring))).nil))) <|
 (.side (((fun v : Nat → V => v = v) (fun i5 => (cond (Nat.beq i5 ((0 : Nat) + (Int.toNat x.fst.Ring))) (V.ptr (Id.loc 30 0) List.nil) (V.Aa (x.snd.rings.get i5).nil (V.cons (V.cons (V.int IntKind.u64 (x.snd.rings.get i5).x.AA.tail) (V.cons (V.Aq 36 1 (x.snd.rings.get i5).x.AA.AB.nil (x.snd.rings.get i5).x.AA.AB.n (fun i6 => (V.int IntKind.u64 ((x.snd.rings.get i5).x.AA.AB.get i6)))) V.unit)) (V.cons (V.Aa (x.snd.rings.get i5).x.s.nil (V.cons (V.Aq 115 3 (x.snd.rings.get i5).x.s.x.l.nil (x.snd.rings.get i5).x.s.x.l.n (fun i6 => (V.cons (V.int IntKind.u64 ((x.snd.rings.get i5).x.s.x.l.get i6).AQ) (V.cons (V.int IntKind.u64 ((x.snd.rings.get i5).x.s.x.l.get i6).Value) (V.cons (V.int IntKind.i64 ((x.snd.rings.get i5).x.s.x.l.get i6).Left) V.unit))))) (V.cons (V.int IntKind.i64 (x.snd.rings.get i5).x.s.x.AP) V.unit))) (V.cons (V.int IntKind.u64 (x.snd.rings.get i5).x.most) (V.cons (V.bool (x.snd.rings.get i5).x.closed) V.unit)))))))) ∧ (((fun v : V => v = v) (V.cons (V.cons (V.int IntKind.u64 (x.snd.rings.get ((0 : Nat) + (Int.toNat x.fst.Ring))).x.AA.tail) (V.cons (V.Aq 36 1 (x.snd.rings.get ((0 : Nat) + (Int.toNat x.fst.Ring))).x.AA.AB.nil (x.snd.rings.get ((0 : Nat) + (Int.toNat x.fst.Ring))).x.AA.AB.n (fun i5 => (V.int IntKind.u64 ((x.snd.rings.get ((0 : Nat) + (Int.toNat x.fst.Ring))).x.AA.AB.get i5)))) V.unit)) (V.cons (V.Aa (x.snd.rings.get ((0 : Nat) + (Int.toNat x.fst.Ring))).x.s.nil (V.cons (V.Aq 115 3 (x.snd.rings.get ((0 : Nat) + (Int.toNat x.fst.Ring))).x.s.x.l.nil (x.snd.rings.get ((0 : Nat) + (Int.toNat x.fst.Ring))).x.s.x.l.n (fun i5 => (V.cons (V.int IntKind.u64 ((x.snd.rings.get ((0 : Nat) + (Int.toNat x.fst.Ring))).x.s.x.l.get i5).AQ) (V.cons (V.int IntKind.u64 ((x.snd.rings.get ((0 : Nat) + (Int.toNat x.fst.Ring))).x.s.x.l.get i5).Value) (V.cons (V.int IntKind.i64 ((x.snd.rings.get ((0 : Nat) + (Int.toNat x.fst.Ring))).x.s.x.l.get i5).Left) V.unit))))) (V.cons (V.int IntKind.i64 (x.snd.rings.get ((0 : Nat) + (Int.toNat x.fst.Ring))).x.s.x.AP) V.unit))) (V.cons (V.int IntKind.u64 (x.snd.rings.get ((0 : Nat) + (Int.toNat x.fst.Ring))).x.most) (V.cons (V.bool (x.snd.rings.get ((0 : Nat) + (Int.toNat x.fst.Ring))).x.closed) V.unit))))) ∧ ((fun v : V => v = v) (V.Aa (x.snd.rings.get ((0 : Nat) + (Int.toNat x.fst.Ring))).nil (V.cons (V.cons (V.int IntKind.u64 (x.snd.rings.get ((0 : Nat) + (Int.toNat x.fst.Ring))).x.AA.tail) (V.cons (V.Aq 36 1 (x.snd.rings.get ((0 : Nat) + (Int.toNat x.fst.Ring))).x.AA.AB.nil (x.snd.rings.get ((0 : Nat) + (Int.toNat x.fst.Ring))).x.AA.AB.n (fun i5 => (V.int IntKind.u64 ((x.snd.rings.get ((0 : Nat) + (Int.toNat x.fst.Ring))).x.AA.AB.get i5)))) V.unit)) (V.cons (V.Aa (x.snd.rings.get ((0 : Nat) + (Int.toNat x.fst.Ring))).x.s.nil (V.cons (V.Aq 115 3 (x.snd.rings.get ((0 : Nat) + (Int.toNat x.fst.Ring))).x.s.x.l.nil (x.snd.rings.get ((0 : Nat) + (Int.toNat x.fst.Ring))).x.s.x.l.n (fun i5 => (V.cons (V.int IntKind.u64 ((x.snd.rings.get ((0 : Nat) + (Int.toNat x.fst.Ring))).x.s.x.l.get i5).AQ) (V.cons (V.int IntKind.u64 ((x.snd.rings.get ((0 : Nat) + (Int.toNat x.fst.Ring))).x.s.x.l.get i5).Value) (V.cons (V.int IntKind.i64 ((x.snd.rings.get ((0 : Nat) + (Int.toNat x.fst.Ring))).x.s.x.l.get i5).Left) V.unit))))) (V.cons (V.int IntKind.i64 (x.snd.rings.get ((0 : Nat) + (Int.toNat x.fst.Ring))).x.s.x.AP) V.unit))) (V.cons (V.int IntKind.u64 (x.snd.rings.get ((0 : Nat) + (Int.toNat x.fst.Ring))).x.most) (V.cons (V.bool (x.snd.rings.get ((0 : Nat) + (Int.toNat x.fst.Ring))).x.closed) V.unit)))))))) <|
 (.need ((true && true) && (Nat.beq x.snd.rings.n x.snd.rings.n)) <|
 (.ret ((!y4), x.snd))))))))
 (.ret (false, x.snd))))
 (.ite (Ad x.fst.Kind 7)
 (.call con_fy (y2, x.snd) fun (y3 : R_fy) =>
 (.ite y3
 (.need (BA x.fst.Ring x.snd.rings.n) <|
 (.need (((Nat.beq x.snd.rings.n x.snd.rings.n) && true) && (!(x.snd.rings.get ((0 : Nat) + (Int.toNat x.fst.Ring))).nil)) <|
 (.call con_f14 (x.snd.rings.get ((0 : Nat) + (Int.toNat x.fst.Ring))).x fun (y4 : R_f14) =>
 (.need ((true && true) && (((Nat.beq x.snd.rings.n x.snd.rings.n) && (Nat.blt ((0 : Nat) + (Int.toNat x.fst.Ring)) x.snd.rings.n)) && (!(x.snd.rings.get ((0 : Nat) + (Int.toNat x.fst.Ring))).nil))) <|
 (.side (((fun v : Nat → V => v = v) (fun i5 => (cond (Nat.beq i5 ((0 : Nat) + (Int.toNat x.fst.Ring))) (V.ptr (Id.loc 30 0) List.nil) (V.Aa (x.snd.rings.get i5).nil (V.cons (V.cons (V.int IntKind.u64 (x.snd.rings.get i5).x.AA.tail) (V.cons (V.Aq 36 1 (x.snd.rings.get i5).x.AA.AB.nil (x.snd.rings.get i5).x.AA.AB.n (fun i6 => (V.int IntKind.u64 ((x.snd.rings.get i5).x.AA.AB.get i6)))) V.unit)) (V.cons (V.Aa (x.snd.rings.get i5).x.s.nil (V.cons (V.Aq 115 3 (x.snd.rings.get i5).x.s.x.l.nil (x.snd.rings.get i5).x.s.x.l.n (fun i6 => (V.cons (V.int IntKind.u64 ((x.snd.rings.get i5).x.s.x.l.get i6).AQ) (V.cons (V.int IntKind.u64 ((x.snd.rings.get i5).x.s.x.l.get i6).Value) (V.cons (V.int IntKind.i64 ((x.snd.rings.get i5).x.s.x.l.get i6).Left) V.unit))))) (V.cons (V.int IntKind.i64 (x.snd.rings.get i5).x.s.x.AP) V.unit))) (V.cons (V.int IntKind.u64 (x.snd.rings.get i5).x.most) (V.cons (V.bool (x.snd.rings.get i5).x.closed) V.unit)))))))) ∧ (((fun v : V => v = v) (V.cons (V.cons (V.int IntKind.u64 (x.snd.rings.get ((0 : Nat) + (Int.toNat x.fst.Ring))).x.AA.tail) (V.cons (V.Aq 36 1 (x.snd.rings.get ((0 : Nat) + (Int.toNat x.fst.Ring))).x.AA.AB.nil (x.snd.rings.get ((0 : Nat) + (Int.toNat x.fst.Ring))).x.AA.AB.n (fun i5 => (V.int IntKind.u64 ((x.snd.rings.get ((0 : Nat) + (Int.toNat x.fst.Ring))).x.AA.AB.get i5)))) V.unit)) (V.cons (V.Aa (x.snd.rings.get ((0 : Nat) + (Int.toNat x.fst.Ring))).x.s.nil (V.cons (V.Aq 115 3 (x.snd.rings.get ((0 : Nat) + (Int.toNat x.fst.Ring))).x.s.x.l.nil (x.snd.rings.get ((0 : Nat) + (Int.toNat x.fst.Ring))).x.s.x.l.n (fun i5 => (V.cons (V.int IntKind.u64 ((x.snd.rings.get ((0 : Nat) + (Int.toNat x.fst.Ring))).x.s.x.l.get i5).AQ) (V.cons (V.int IntKind.u64 ((x.snd.rings.get ((0 : Nat) + (Int.toNat x.fst.Ring))).x.s.x.l.get i5).Value) (V.cons (V.int IntKind.i64 ((x.snd.rings.get ((0 : Nat) + (Int.toNat x.fst.Ring))).x.s.x.l.get i5).Left) V.unit))))) (V.cons (V.int IntKind.i64 (x.snd.rings.get ((0 : Nat) + (Int.toNat x.fst.Ring))).x.s.x.AP) V.unit))) (V.cons (V.int IntKind.u64 (x.snd.rings.get ((0 : Nat) + (Int.toNat x.fst.Ring))).x.most) (V.cons (V.bool (x.snd.rings.get ((0 : Nat) + (Int.toNat x.fst.Ring))).x.closed) V.unit))))) ∧ ((fun v : V => v = v) (V.Aa (x.snd.rings.get ((0 : Nat) + (Int.toNat x.fst.Ring))).nil (V.cons (V.cons (V.int IntKind.u64 (x.snd.rings.get ((0 : Nat) + (Int.toNat x.fst.Ring))).x.AA.tail) (V.cons (V.Aq 36 1 (x.snd.rings.get ((0 : Nat) + (Int.toNat x.fst.Ring))).x.AA.AB.nil (x.snd.rings.get ((0 : Nat) + (Int.toNat x.fst.Ring))).x.AA.AB.n (fun i5 => (V.int IntKind.u64 ((x.snd.rings.get ((0 : Nat) + (Int.toNat x.fst.Ring))).x.AA.AB.get i5)))) V.unit)) (V.cons (V.Aa (x.snd.rings.get ((0 : Nat) + (Int.toNat x.fst.Ring))).x.s.nil (V.cons (V.Aq 115 3 (x.snd.rings.get ((0 : Nat) + (Int.toNat x.fst.Ring))).x.s.x.l.nil (x.snd.rings.get ((0 : Nat) + (Int.toNat x.fst.Ring))).x.s.x.l.n (fun i5 => (V.cons (V.int IntKind.u64 ((x.snd.rings.get ((0 : Nat) + (Int.toNat x.fst.Ring))).x.s.x.l.get i5).AQ) (V.cons (V.int IntKind.u64 ((x.snd.rings.get ((0 : Nat) + (Int.toNat x.fst.Ring))).x.s.x.l.get i5).Value) (V.cons (V.int IntKind.i64 ((x.snd.rings.get ((0 : Nat) + (Int.toNat x.fst.Ring))).x.s.x.l.get i5).Left) V.unit))))) (V.cons (V.int IntKind.i64 (x.snd.rings.get ((0 : Nat) + (Int.toNat x.fst.Ring))).x.s.x.AP) V.unit))) (V.cons (V.int IntKind.u64 (x.snd.rings.get ((0 : Nat) + (Int.toNat x.fst.Ring))).x.most) (V.cons (V.bool (x.snd.rings.get ((0 : Nat) + (Int.toNat x.fst.Ring))).x.closed) V.unit)))))))) <|
 (.need ((true && true) && (Nat.beq x.snd.rings.n x.snd.rings.n)) <|
 (.ret ((!y4), x.snd))))))))
 (.ret (false, x.snd))))
 (.ite (Ad x.fst.Kind 6)
 (.call con_fy (y2, x.snd) fun (y3 : R_fy) =>
 (.ite y3
 (.need (BA x.fst.Ring x.snd.rings.n) <|
 (.need (((Nat.beq x.snd.rings.n x.snd.rings.n) && true) && (!(x.snd.rings.get ((0 : Nat) + (Int.toNat x.fst.Ring))).nil)) <|
 (.call con_f14 (x.snd.rings.get ((0 : Nat) + (Int.toNat x.fst.Ring))).x fun (y4 : R_f14) =>
 (.need ((true && true) && (((Nat.beq x.snd.rings.n x.snd.rings.n) && (Nat.blt ((0 : Nat) + (Int.toNat x.fst.Ring)) x.snd.rings.n)) && (!(x.snd.rings.get ((0 : Nat) + (Int.toNat x.fst.Ring))).nil))) <|
 (.side (((fun v : Nat → V => v = v) (fun i5 => (cond (Nat.beq i5 ((0 : Nat) + (Int.toNat x.fst.Ring))) (V.ptr (Id.loc 47 0) List.nil) (V.Aa (x.snd.rings.get i5).nil (V.cons (V.cons (V.int IntKind.u64 (x.snd.rings.get i5).x.AA.tail) (V.cons (V.Aq 36 1 (x.snd.rings.get i5).x.AA.AB.nil (x.snd.rings.get i5).x.AA.AB.n (fun i6 => (V.int IntKind.u64 ((x.snd.rings.get i5).x.AA.AB.get i6)))) V.unit)) (V.cons (V.Aa (x.snd.rings.get i5).x.s.nil (V.cons (V.Aq 115 3 (x.snd.rings.get i5).x.s.x.l.nil (x.snd.rings.get i5).x.s.x.l.n (fun i6 => (V.cons (V.int IntKind.u64 ((x.snd.rings.get i5).x.s.x.l.get i6).AQ) (V.cons (V.int IntKind.u64 ((x.snd.rings.get i5).x.s.x.l.get i6).Value) (V.cons (V.int IntKind.i64 ((x.snd.rings.get i5).x.s.x.l.get i6).Left) V.unit))))) (V.cons (V.int IntKind.i64 (x.snd.rings.get i5).x.s.x.AP) V.unit))) (V.cons (V.int IntKind.u64 (x.snd.rings.get i5).x.most) (V.cons (V.bool (x.snd.rings.get i5).x.closed) V.unit)))))))) ∧ (((fun v : V => v = v) (V.cons (V.cons (V.int IntKind.u64 (x.snd.rings.get ((0 : Nat) + (Int.toNat x.fst.Ring))).x.AA.tail) (V.cons (V.Aq 36 1 (x.snd.rings.get ((0 : Nat) + (Int.toNat x.fst.Ring))).x.AA.AB.nil (x.snd.rings.get ((0 : Nat) + (Int.toNat x.fst.Ring))).x.AA.AB.n (fun i5 => (V.int IntKind.u64 ((x.snd.rings.get ((0 : Nat) + (Int.toNat x.fst.Ring))).x.AA.AB.get i5)))) V.unit)) (V.cons (V.Aa (x.snd.rings.get ((0 : Nat) + (Int.toNat x.fst.Ring))).x.s.nil (V.cons (V.Aq 115 3 (x.snd.rings.get ((0 : Nat) + (Int.toNat x.fst.Ring))).x.s.x.l.nil (x.snd.rings.get ((0 : Nat) + (Int.toNat x.fst.Ring))).x.s.x.l.n (fun i5 => (V.cons (V.int IntKind.u64 ((x.snd.rings.get ((0 : Nat) + (Int.toNat x.fst.Ring))).x.s.x.l.get i5).AQ) (V.cons (V.int IntKind.u64 ((x.snd.rings.get ((0 : Nat) + (Int.toNat x.fst.Ring))).x.s.x.l.get i5).Value) (V.cons (V.int IntKind.i64 ((x.snd.rings.get ((0 : Nat) + (Int.toNat x.fst.Ring))).x.s.x.l.get i5).Left) V.unit))))) (V.cons (V.int IntKind.i64 (x.snd.rings.get ((0 : Nat) + (Int.toNat x.fst.Ring))).x.s.x.AP) V.unit))) (V.cons (V.int IntKind.u64 (x.snd.rings.get ((0 : Nat) + (Int.toNat x.fst.Ring))).x.most) (V.cons (V.bool (x.snd.rings.get ((0 : Nat) + (Int.toNat x.fst.Ring))).x.closed) V.unit))))) ∧ ((fun v : V => v = v) (V.Aa (x.snd.rings.get ((0 : Nat) + (Int.toNat x.fst.Ring))).nil (V.cons (V.cons (V.int IntKind.u64 (x.snd.rings.get ((0 : Nat) + (Int.toNat x.fst.Ring))).x.AA.tail) (V.cons (V.Aq 36 1 (x.snd.rings.get ((0 : Nat) + (Int.toNat x.fst.Ring))).x.AA.AB.nil (x.snd.rings.get ((0 : Nat) + (Int.toNat x.fst.Ring))).x.AA.AB.n (fun i5 => (V.int IntKind.u64 ((x.snd.rings.get ((0 : Nat) + (Int.toNat x.fst.Ring))).x.AA.AB.get i5)))) V.unit)) (V.cons (V.Aa (x.snd.rings.get ((0 : Nat) + (Int.toNat x.fst.Ring))).x.s.nil (V.cons (V.Aq 115 3 (x.snd.rings.get ((0 : Nat) + (Int.toNat x.fst.Ring))).x.s.x.l.nil (x.snd.rings.get ((0 : Nat) + (Int.toNat x.fst.Ring))).x.s.x.l.n (fun i5 => (V.cons (V.int IntKind.u64 ((x.snd.rings.get ((0 : Nat) + (Int.toNat x.fst.Ring))).x.s.x.l.get i5).AQ) (V.cons (V.int IntKind.u64 ((x.snd.rings.get ((0 : Nat) + (Int.toNat x.fst.Ring))).x.s.x.l.get i5).Value) (V.cons (V.int IntKind.i64 ((x.snd.rings.get ((0 : Nat) + (Int.toNat x.fst.Ring))).x.s.x.l.get i5).Left) V.unit))))) (V.cons (V.int IntKind.i64 (x.snd.rings.get ((0 : Nat) + (Int.toNat x.fst.Ring))).x.s.x.AP) V.unit))) (V.cons (V.int IntKind.u64 (x.snd.rings.get ((0 : Nat) + (Int.toNat x.fst.Ring))).x.most) (V.cons (V.bool (x.snd.rings.get ((0 : Nat) + (Int.toNat x.fst.Ring))).x.closed) V.unit)))))))) <|
 (.need ((true && true) && (Nat.beq x.snd.rings.n x.snd.rings.n)) <|
 (.ret (y4, x.snd))))))))
 (.ret (false, x.snd))))
 (.ite (Ad x.fst.Kind 8)
 (.ite (Bh x.snd.now x.fst.Value)
 (.ret ((Bu (IntKind.u64.wrap (x.fst.Value - x.snd.now)) 1048576), x.snd))
 (.ret (false, x.snd)))
 (.ite (Ad x.fst.Kind 10)
 (.ret ((!x.snd.ended), x.snd))
 (.ite (Ad x.fst.Kind 1)
 (.call con_fx (x.fst, (y2, x.snd)) fun (y3 : R_fx) =>
 (.ite y3
 (.need (BA x.fst.Ring x.snd.rings.n) <|
 (.need (((Nat.beq x.snd.rings.n x.snd.rings.n) && true) && (!(x.snd.rings.get ((0 : Nat) + (Int.toNat x.fst.Ring))).nil)) <|
 (.call con_f14 (x.snd.rings.get ((0 : Nat) + (Int.toNat x.fst.Ring))).x fun (y4 : R_f14) =>
 (.need ((true && true) && (((Nat.beq x.snd.rings.n x.snd.rings.n) && (Nat.blt ((0 : Nat) + (Int.toNat x.fst.Ring)) x.snd.rings.n)) && (!(x.snd.rings.get ((0 : Nat) + (Int.toNat x.fst.Ring))).nil))) <|
 (.side (((fun v : Nat → V => v = v) (fun i5 => (cond (Nat.beq i5 ((0 : Nat) + (Int.toNat x.fst.Ring))) (V.ptr (Id.loc 90 0) List.nil) (V.Aa (x.snd.rings.get i5).nil (V.cons (V.cons (V.int IntKind.u64 (x.snd.rings.get i5).x.AA.tail) (V.cons (V.Aq 36 1 (x.snd.rings.get i5).x.AA.AB.nil (x.snd.rings.get i5).x.AA.AB.n (fun i6 => (V.int IntKind.u64 ((x.snd.rings.get i5).x.AA.AB.get i6)))) V.unit)) (V.cons (V.Aa (x.snd.rings.get i5).x.s.nil (V.cons (V.Aq 115 3 (x.snd.rings.get i5).x.s.x.l.nil (x.snd.rings.get i5).x.s.x.l.n (fun i6 => (V.cons (V.int IntKind.u64 ((x.snd.rings.get i5).x.s.x.l.get i6).AQ) (V.cons (V.int IntKind.u64 ((x.snd.rings.get i5).x.s.x.l.get i6).Value) (V.cons (V.int IntKind.i64 ((x.snd.rings.get i5).x.s.x.l.get i6).Left) V.unit))))) (V.cons (V.int IntKind.i64 (x.snd.rings.get i5).x.s.x.AP) V.unit))) (V.cons (V.int IntKind.u64 (x.snd.rings.get i5).x.most) (V.cons (V.bool (x.snd.rings.get i5).x.closed) V.unit)))))))) ∧ (((fun v : V => v = v) (V.cons (V.cons (V.int IntKind.u64 (x.snd.rings.get ((0 : Nat) + (Int.toNat x.fst.Ring))).x.AA.tail) (V.cons (V.Aq 36 1 (x.snd.rings.get ((0 : Nat) + (Int.toNat x.fst.Ring))).x.AA.AB.nil (x.snd.rings.get ((0 : Nat) + (Int.toNat x.fst.Ring))).x.AA.AB.n (fun i5 => (V.int IntKind.u64 ((x.snd.rings.get ((0 : Nat) + (Int.toNat x.fst.Ring))).x.AA.AB.get i5)))) V.unit)) (V.cons (V.Aa (x.snd.rings.get ((0 : Nat) + (Int.toNat x.fst.Ring))).x.s.nil (V.cons (V.Aq 115 3 (x.snd.rings.get ((0 : Nat) + (Int.toNat x.fst.Ring))).x.s.x.l.nil (x.snd.rings.get ((0 : Nat) + (Int.toNat x.fst.Ring))).x.s.x.l.n (fun i5 => (V.cons (V.int IntKind.u64 ((x.snd.rings.get ((0 : Nat) + (Int.toNat x.fst.Ring))).x.s.x.l.get i5).AQ) (V.cons (V.int IntKind.u64 ((x.snd.rings.get ((0 : Nat) + (Int.toNat x.fst.Ring))).x.s.x.l.get i5).Value) (V.cons (V.int IntKind.i64 ((x.snd.rings.get ((0 : Nat) + (Int.toNat x.fst.Ring))).x.s.x.l.get i5).Left) V.unit))))) (V.cons (V.int IntKind.i64 (x.snd.rings.get ((0 : Nat) + (Int.toNat x.fst.Ring))).x.s.x.AP) V.unit))) (V.cons (V.int IntKind.u64 (x.snd.rings.get ((0 : Nat) + (Int.toNat x.fst.Ring))).x.most) (V.cons (V.bool (x.snd.rings.get ((0 : Nat) + (Int.toNat x.fst.Ring))).x.closed) V.unit))))) ∧ ((fun v : V => v = v) (V.Aa (x.snd.rings.get ((0 : Nat) + (Int.toNat x.fst.Ring))).nil (V.cons (V.cons (V.int IntKind.u64 (x.snd.rings.get ((0 : Nat) + (Int.toNat x.fst.Ring))).x.AA.tail) (V.cons (V.Aq 36 1 (x.snd.rings.get ((0 : Nat) + (Int.toNat x.fst.Ring))).x.AA.AB.nil (x.snd.rings.get ((0 : Nat) + (Int.toNat x.fst.Ring))).x.AA.AB.n (fun i5 => (V.int IntKind.u64 ((x.snd.rings.get ((0 : Nat) + (Int.toNat x.fst.Ring))).x.AA.AB.get i5)))) V.unit)) (V.cons (V.Aa (x.snd.rings.get ((0 : Nat) + (Int.toNat x.fst.Ring))).x.s.nil (V.cons (V.Aq 115 3 (x.snd.rings.get ((0 : Nat) + (Int.toNat x.fst.Ring))).x.s.x.l.nil (x.snd.rings.get ((0 : Nat) + (Int.toNat x.fst.Ring))).x.s.x.l.n (fun i5 => (V.cons (V.int IntKind.u64 ((x.snd.rings.get ((0 : Nat) + (Int.toNat x.fst.Ring))).x.s.x.l.get i5).AQ) (V.cons (V.int IntKind.u64 ((x.snd.rings.get ((0 : Nat) + (Int.toNat x.fst.Ring))).x.s.x.l.get i5).Value) (V.cons (V.int IntKind.i64 ((x.snd.rings.get ((0 : Nat) + (Int.toNat x.fst.Ring))).x.s.x.l.get i5).Left) V.unit))))) (V.cons (V.int IntKind.i64 (x.snd.rings.get ((0 : Nat) + (Int.toNat x.fst.Ring))).x.s.x.AP) V.unit))) (V.cons (V.int IntKind.u64 (x.snd.rings.get ((0 : Nat) + (Int.toNat x.fst.Ring))).x.most) (V.cons (V.bool (x.snd.rings.get ((0 : Nat) + (Int.toNat x.fst.Ring))).x.closed) V.unit)))))))) <|
 (.need ((true && true) && (Nat.beq x.snd.rings.n x.snd.rings.n)) <|
 (.ret ((!y4), x.snd))))))))
 (.ret (false, x.snd))))
 (.Ac S_fc_16 D_fc_16 (X_fc_16.mk x.fst x.snd y2)))))))))))
theorem sd_fc (x : X_fc) : (tt_fc x).AH :=
 (TT.sC fun _ => (TT.sI TT.sR (TT.sC fun _ => (TT.sI (TT.sC fun _ => (TT.sI (TT.sN (TT.sN (TT.sC fun _ => (TT.sN (TT.sS ⟨rfl, ⟨rfl, rfl⟩⟩ (TT.sN TT.sR)))))) TT.sR)) (TT.sI (TT.sC fun _ => (TT.sI (TT.sN (TT.sN (TT.sC fun _ => (TT.sN (TT.sS ⟨rfl, ⟨rfl, rfl⟩⟩ (TT.sN TT.sR)))))) TT.sR)) (TT.sI (TT.sC fun _ => (TT.sI (TT.sN (TT.sN (TT.sC fun _ => (TT.sN (TT.sS ⟨rfl, ⟨rfl, rfl⟩⟩ (TT.sN TT.sR)))))) TT.sR)) (TT.sI (TT.sI TT.sR TT.sR) (TT.sI TT.sR (TT.sI (TT.sC fun _ => (TT.sI (TT.sN (TT.sN (TT.sC fun _ => (TT.sN (TT.sS ⟨rfl, ⟨rfl, rfl⟩⟩ (TT.sN TT.sR)))))) TT.sR)) TT.sJ)))))))))
theorem roT_fc (x : X_fc) : TT.Ro p_fc (w_fc x) (tt_fc x) :=
 (TT.rC fun _ => (TT.rI (TT.rR rfl) (TT.rC fun _ => (TT.rI (TT.rC fun _ => (TT.rI (TT.rN (TT.rN (TT.rC fun _ => (TT.rN (TT.rS (TT.rN (TT.rR rfl))))))) (TT.rR rfl))) (TT.rI (TT.rC fun _ => (TT.rI (TT.rN (TT.rN (TT.rC fun _ => (TT.rN (TT.rS (TT.rN (TT.rR rfl))))))) (TT.rR rfl))) (TT.rI (TT.rC fun _ => (TT.rI (TT.rN (TT.rN (TT.rC fun _ => (TT.rN (TT.rS (TT.rN (TT.rR rfl))))))) (TT.rR rfl))) (TT.rI (TT.rI (TT.rR rfl) (TT.rR rfl)) (TT.rI (TT.rR rfl) (TT.rI (TT.rC fun _ => (TT.rI (TT.rN (TT.rN (TT.rC fun _ => (TT.rN (TT.rS (TT.rN (TT.rR rfl))))))) (TT.rR rfl))) (TT.rJ (ro_fc_16 _)))))))))))
def D_fc : AV X_fc R_fc := .ro (.of tt_fc) (fun y => (y.1)) (fun y x => (y, x.2)) fun x y h => congrArg (fun o => (y.1, o)) (roT_fc x y h)
def con_fc : BC Tryz.prog :=
 Cb 13 J_fc S_fc (.of tt_fc) D_fc (fun y x => (y, x.2)) (fun y => V.bool y) 2 1 [.any, .any] (lk mxk (lbc ok_fc_16 rfl lbn) sd_fc) (fun x => ⟨(nu_e_TFa : ∀ y, (e_TFa y).CB) (x.2), trivial⟩)
abbrev X_f28 : Type := TRr
abbrev R_f28 : Type := Int × Int × TRr
def J_f28 : BH Tryz.prog :=
 BR Tryz.prog Tryz.f74 30 [] [] [] [] [.any, .any] [sh_TRr] [con_f1b] R_f28 [] fun y => [V.CG (V.cons ((V.int .u64) y.1) (V.cons ((V.int .i64) y.2.1) (V.unit))), e_TRr y.2.2]
def S_f28 : AR :=
 Aj Tryz.f74 1 1 X_f28 (fun x => [(V.ptr (.par 0) []), e_TRr x]) fun l => (d_TRr (at_ l 1))
def tt_f28 (x : X_f28) : TT Tryz.prog R_f28 :=
 (.ite x.closed
 (.ret (0, (10, x)))
 (.call con_f1b x fun (y1 : R_f1b) =>
 (.ite y1
 (.ret (0, (8, x)))
 (.ret ((IntKind.u64.wrap ((IntKind.u64.wrap (x.AA.tail + 1)) - 1)), (0, (TRr.mk (TRc.mk (IntKind.u64.wrap (x.AA.tail + 1)) x.AA.AB) x.s x.most x.closed)))))))
theorem sd_f28 (x : X_f28) : (tt_f28 x).AH :=
 (TT.sI TT.sR (TT.sC fun _ => (TT.sI TT.sR TT.sR)))
def D_f28 : AV X_f28 R_f28 := .of tt_f28
def con_f28 : BC Tryz.prog :=
 CH 74 J_f28 S_f28 D_f28 1 1 [.any] (lk mxk lbn sd_f28)
abbrev X_fn : Type := (Ar TSo)
abbrev R_fn : Type := (Sl TSo)
abbrev RR_fn : Type := (Sl TSo) × (Ar TSo)
abbrev p_fn (y : RR_fn) : (Ar TSo) := y.2
abbrev w_fn (x : X_fn) : (Ar TSo) := x
def J_fn : BH Tryz.prog :=
 BR Tryz.prog Tryz.f82 8 [(6, 1)] [] [] [.D8 2] [hsl_TSo] [.any] [] RR_fn [] fun y => [esl_TSo y.1, (Hm 3 e_TSo) y.2]
def S_fn : AR :=
 Aj Tryz.f82 1 1 X_fn (fun x => [(V.own (.par 0) [] 3 x.n 0 x.n), (Hm 3 e_TSo) x]) fun l => ((Mq d_TSo) (at_ l 1))
def tt_fn (x : X_fn) : TT Tryz.prog RR_fn :=
 (.need (Nat.blt 0 x.n) <|
 (.need ((true && (Nat.beq x.n x.n)) && (room ((0 : Nat) + x.n) 24)) <|
 (.side (∀ i1 : Nat, ((i1 < x.n) → ((true && (true && (true && true))) = true))) <|
 (.ret ((Sl.mk (cond (Nat.beq x.n 0) false false) ((0 : Nat) + x.n) (fun i1 => (TSo.mk (cond (Nat.blt i1 0) (0 : Int) (x.get ((0 : Nat) + (i1 - 0))).AQ) (cond (Nat.blt i1 0) (0 : Int) (x.get ((0 : Nat) + (i1 - 0))).Value) (cond (Nat.blt i1 0) (0 : Int) (x.get ((0 : Nat) + (i1 - 0))).Left)))), x)))))
theorem sd_fn (x : X_fn) : (tt_fn x).AH :=
 (TT.sN (TT.sN (TT.sS (fun _ _ => rfl) TT.sR)))
theorem roT_fn (x : X_fn) : TT.Ro p_fn (w_fn x) (tt_fn x) :=
 (TT.rN (TT.rN (TT.rS (TT.rR rfl))))
def D_fn : AV X_fn R_fn := .ro (.of tt_fn) (fun y => (y.1)) (fun y x => (y, x)) fun x y h => congrArg (fun o => (y.1, o)) (roT_fn x y h)
def con_fn : BC Tryz.prog :=
 Cb 82 J_fn S_fn (.of tt_fn) D_fn (fun y x => (y, x)) (fun y => esl_TSo y) 1 1 [.any] (lk mxk lbn sd_fn) (fun x => ⟨(fun _ _ => (nu_e_TSo) _ : ∀ y, ((Hm 3 e_TSo) y).CB) (x), trivial⟩)
abbrev X_f1o : Type := TSs
abbrev R_f1o : Type := (Sl TSo)
abbrev RR_f1o : Type := (Sl TSo) × TSs
abbrev p_f1o (y : RR_f1o) : TSs := y.2
abbrev w_f1o (x : X_f1o) : TSs := x
def J_f1o : BH Tryz.prog :=
 BR Tryz.prog Tryz.f60 10 [] [] [] [.back (.loc 8 0), .D8 2] [hsl_TSo] [sh_TSs] [con_fn] RR_f1o [] fun y => [esl_TSo y.1, e_TSs y.2]
def S_f1o : AR :=
 Aj Tryz.f60 1 1 X_f1o (fun x => [(V.ptr (.par 0) []), e_TSs x]) fun l => (d_TSs (at_ l 1))
def tt_f1o (x : X_f1o) : TT Tryz.prog RR_f1o :=
 (.call con_fn (Ar.mk x.l.n x.l.get) fun (y1 : R_fn) =>
 (.need ((true && true) && (Nat.beq x.l.n x.l.n)) <|
 (.ret (y1, x))))
theorem sd_f1o (x : X_f1o) : (tt_f1o x).AH :=
 (TT.sC fun _ => (TT.sN TT.sR))
theorem roT_f1o (x : X_f1o) : TT.Ro p_f1o (w_f1o x) (tt_f1o x) :=
 (TT.rC fun _ => (TT.rN (TT.rR rfl)))
def D_f1o : AV X_f1o R_f1o := .ro (.of tt_f1o) (fun y => (y.1)) (fun y x => (y, x)) fun x y h => congrArg (fun o => (y.1, o)) (roT_f1o x y h)
def con_f1o : BC Tryz.prog :=
 Cb 60 J_f1o S_f1o (.of tt_f1o) D_f1o (fun y x => (y, x)) (fun y => esl_TSo y) 1 1 [.any] (lk mxk lbn sd_f1o) (fun x => ⟨(nu_e_TSs : ∀ y, (e_TSs y).CB) (x), trivial⟩)
abbrev X_fu : Type := (Ar Int)
abbrev R_fu : Type := (Sl Int)
abbrev RR_fu : Type := (Sl Int) × (Ar Int)
abbrev p_fu (y : RR_fu) : (Ar Int) := y.2
abbrev w_fu (x : X_fu) : (Ar Int) := x
def J_fu : BH Tryz.prog :=
 BR Tryz.prog Tryz.f27 8 [(6, 1)] [] [] [.D8 2] [C5] [.any] [] RR_fu [] fun y => [CW y.1, (Hm 1 (V.int .u64)) y.2]
def S_fu : AR :=
 Aj Tryz.f27 1 1 X_fu (fun x => [(V.own (.par 0) [] 1 x.n 0 x.n), (Hm 1 (V.int .u64)) x]) fun l => ((Mq dI) (at_ l 1))
def tt_fu (x : X_fu) : TT Tryz.prog RR_fu :=
 (.need (Nat.blt 0 x.n) <|
 (.need ((true && (Nat.beq x.n x.n)) && (room ((0 : Nat) + x.n) 8)) <|
 (.side (∀ i1 : Nat, ((i1 < x.n) → (true = true))) <|
 (.ret ((Sl.mk (cond (Nat.beq x.n 0) false false) ((0 : Nat) + x.n) (fun i1 => (cond (Nat.blt i1 0) (0 : Int) (x.get ((0 : Nat) + (i1 - 0)))))), x)))))
theorem sd_fu (x : X_fu) : (tt_fu x).AH :=
 (TT.sN (TT.sN (TT.sS (fun _ _ => rfl) TT.sR)))
theorem roT_fu (x : X_fu) : TT.Ro p_fu (w_fu x) (tt_fu x) :=
 (TT.rN (TT.rN (TT.rS (TT.rR rfl))))
def D_fu : AV X_fu R_fu := .ro (.of tt_fu) (fun y => (y.1)) (fun y x => (y, x)) fun x y h => congrArg (fun o => (y.1, o)) (roT_fu x y h)
def con_fu : BC Tryz.prog :=
 Cb 27 J_fu S_fu (.of tt_fu) D_fu (fun y x => (y, x)) (fun y => CW y) 1 1 [.any] (lk mxk lbn sd_fu) (fun x => ⟨(fun _ _ => trivial : ∀ y, ((Hm 1 (V.int .u64)) y).CB) (x), trivial⟩)
structure TRs where
 A4 : Int
 An : (Sl Int)
 B4 : Bool
 Aw : (Sl TSo)
def d_TRs (v : V) : TRs :=
 ⟨dI (fd v 0), ED (fd v 1), dB (fd v 2), dsl_TSo (fd v 3)⟩
def e_TRs (x : TRs) : V :=
 V.cons ((V.int .u64) x.A4) (V.cons (CW x.An) (V.cons (V.bool x.B4) (V.cons (esl_TSo x.Aw) (V.unit))))
theorem nu_e_TRs (x : TRs) : (e_TRs x).CB := ⟨trivial, trivial, trivial, trivial, trivial⟩
def sh_TRs : Sh := (.cons .any (.cons C5 (.cons .any (.cons hsl_TSo .any))))
abbrev X_f1d : Type := TRr
abbrev R_f1d : Type := TRs
abbrev RR_f1d : Type := TRs × TRr
abbrev p_f1d (y : RR_f1d) : TRr := y.2
abbrev w_f1d (x : X_f1d) : TRr := x
def J_f1d : BH Tryz.prog :=
 BR Tryz.prog Tryz.f34 27 [] [] [(3, [.Gb (.par 0) [.BN 0 0, .BN 1 1] 15, .Gb (.par 0) [.BN 1 2] 24])] [.back (.loc 24 0), .back (.loc 15 0)] [sh_TRs] [sh_TRr] [con_fu, con_f1o] RR_f1d [(0, [⟨.loc 15 0, .par 0, [.BN 0 0, .BN 1 1], none, none⟩, ⟨.loc 24 0, .par 0, [.BN 1 2], none, none⟩])] fun y => [e_TRs y.1, e_TRr y.2]
def S_f1d : AR :=
 Aj Tryz.f34 1 1 X_f1d (fun x => [(V.ptr (.par 0) []), e_TRr x]) fun l => (d_TRr (at_ l 1))
def tt_f1d (x : X_f1d) : TT Tryz.prog RR_f1d :=
 (.need ((true && true) && (!x.s.nil)) <|
 (.call con_fu (Ar.mk x.AA.AB.n x.AA.AB.get) fun (y1 : R_fu) =>
 (.call con_f1o x.s.x fun (y2 : R_f1o) =>
 (.need ((true && true) && (!x.s.nil)) <|
 (.side ((fun v : V => v = v) (V.cons (V.Aq 115 3 x.s.x.l.nil x.s.x.l.n (fun i3 => (V.cons (V.int IntKind.u64 (x.s.x.l.get i3).AQ) (V.cons (V.int IntKind.u64 (x.s.x.l.get i3).Value) (V.cons (V.int IntKind.i64 (x.s.x.l.get i3).Left) V.unit))))) (V.cons (V.int IntKind.i64 x.s.x.AP) V.unit))) <|
 (.need ((true && true) && (Nat.beq x.AA.AB.n x.AA.AB.n)) <|
 (.ret ((TRs.mk x.AA.tail y1 x.closed y2), x))))))))
theorem sd_f1d (x : X_f1d) : (tt_f1d x).AH :=
 (TT.sN (TT.sC fun _ => (TT.sC fun _ => (TT.sN (TT.sS rfl (TT.sN TT.sR))))))
theorem roT_f1d (x : X_f1d) : TT.Ro p_f1d (w_f1d x) (tt_f1d x) :=
 (TT.rN (TT.rC fun _ => (TT.rC fun _ => (TT.rN (TT.rS (TT.rN (TT.rR rfl)))))))
def D_f1d : AV X_f1d R_f1d := .ro (.of tt_f1d) (fun y => (y.1)) (fun y x => (y, x)) fun x y h => congrArg (fun o => (y.1, o)) (roT_f1d x y h)
def con_f1d : BC Tryz.prog :=
 Cb 34 J_f1d S_f1d (.of tt_f1d) D_f1d (fun y x => (y, x)) (fun y => e_TRs y) 1 1 [.any] (lk mxk lbn sd_f1d) (fun x => ⟨(nu_e_TRr : ∀ y, (e_TRr y).CB) (x), trivial⟩)
abbrev X_f1m : Type := Int × Int × Int × TSo
abbrev R_f1m : Type := Bool
def J_f1m : BH Tryz.prog :=
 BR Tryz.prog Tryz.f83 45 [(7, 3)] [] [] [] [.any] [] [] R_f1m [] fun y => [V.bool y]
def S_f1m : AR :=
 Aj Tryz.f83 4 0 X_f1m (fun x => [(V.int .i64) x.1, (V.int .i64) x.2.1, (V.int .i64) x.2.2.1, e_TSo x.2.2.2]) fun l => (dI (at_ l 0), dI (at_ l 1), dI (at_ l 2), d_TSo (at_ l 3))
structure X_f1m_3 where
 HW : Int
 Sp : TSo
def S_f1m_3 : AR :=
 Ak Tryz.f83 3 (an [2, 7]) [] [] X_f1m_3 (fun x => [(V.int .i64) x.HW, (DQ e_TSo) x.Sp]) fun l => ⟨dI (at_ l 0), (DR d_TSo) (at_ l 1)⟩
def tt_f1m_3 (x : X_f1m_3) : TT Tryz.prog R_f1m :=
 (.ite (Ad (Int.tmod x.Sp.AQ 2) 0)
 (.ite (Ad x.Sp.Value 0)
 (.ret (Ad x.Sp.Left 0))
 (.ret false))
 (.ite (Bh 1 x.Sp.Left)
 (.need (Bh 0 x.HW) <|
 (.ret (Bu x.Sp.Left (shl IntKind.i64 1 x.HW))))
 (.ret false)))
theorem sd_f1m_3 (x : X_f1m_3) : (tt_f1m_3 x).AH :=
 (TT.sI (TT.sI TT.sR TT.sR) (TT.sI (TT.sN TT.sR) TT.sR))
def D_f1m_3 : AV X_f1m_3 R_f1m := .of tt_f1m_3
theorem ok_f1m_3 : AZ J_f1m S_f1m_3 D_f1m_3 :=
 lk mxk lbn sd_f1m_3
def tt_f1m (x : X_f1m) : TT Tryz.prog R_f1m :=
 (.ite (Bh 9223372036854775808 x.snd.snd.snd.AQ)
 (.ret false)
 (.need (!(Ad (IntKind.u64.wrap x.snd.fst) 0)) <|
 (.ite (!(Ad (Int.tmod (IntKind.u64.wrap (Int.tdiv x.snd.snd.snd.AQ 2)) (IntKind.u64.wrap x.snd.fst)) (IntKind.u64.wrap x.fst)))
 (.ret false)
 (.Ac S_f1m_3 D_f1m_3 (X_f1m_3.mk x.snd.snd.fst x.snd.snd.snd)))))
theorem sd_f1m (x : X_f1m) : (tt_f1m x).AH :=
 (TT.sI TT.sR (TT.sN (TT.sI TT.sR TT.sJ)))
def D_f1m : AV X_f1m R_f1m := .of tt_f1m
def con_f1m : BC Tryz.prog :=
 CH 83 J_f1m S_f1m D_f1m 4 0 [.any, .any, .any, .any] (lk mxk (lbc ok_f1m_3 rfl lbn) sd_f1m)
abbrev X_f17 : Type := (Sl TSo)
abbrev R_f17 : Type := (Sl TSo)
def J_f17 : BH Tryz.prog :=
 BR Tryz.prog Tryz.f82 8 [(5, 1), (6, 1)] [] [] [.D8 2] [hosl_TSo] [] [] R_f17 [] fun y => [eosl_TSo y]
def S_f17 : AR :=
 Aj Tryz.f82 1 0 X_f17 (fun x => [esl_TSo x]) fun l => (dsl_TSo (at_ l 0))
def tt_f17 (x : X_f17) : TT Tryz.prog R_f17 :=
 (.ite x.nil
 (.ret (Sl.mk true 0 (fun _i1 => (TSo.mk 0 0 0))))
 (.need (true && (room ((0 : Nat) + x.n) 24)) <|
 (.ret (Sl.mk (cond (Nat.beq x.n 0) false false) ((0 : Nat) + x.n) (fun i1 => (TSo.mk (cond (Nat.blt i1 0) (0 : Int) (x.get (i1 - 0)).AQ) (cond (Nat.blt i1 0) (0 : Int) (x.get (i1 - 0)).Value) (cond (Nat.blt i1 0) (0 : Int) (x.get (i1 - 0)).Left)))))))
theorem sd_f17 (x : X_f17) : (tt_f17 x).AH :=
 (TT.sI TT.sR (TT.sN TT.sR))
def D_f17 : AV X_f17 R_f17 := .of tt_f17
def con_f17 : BC Tryz.prog :=
 CH 82 J_f17 S_f17 D_f17 1 0 [hsl_TSo] (lk mxk lbn sd_f17)
abbrev X_fo : Type := Int × Int × (Sl TSo)
abbrev R_fo : Type := (Bx TSs) × Int
def J_fo : BH Tryz.prog :=
 BR Tryz.prog Tryz.f61 37 [(32, 1)] [] [] [.D8 6] [hbox_TSs, .any] [] [con_f17, con_f2t, con_f1m] R_fo [] fun y => [V.CG (V.cons (ebox_TSs y.1) (V.cons ((V.int .i64) y.2) (V.unit)))]
def S_fo : AR :=
 Aj Tryz.f61 3 0 X_fo (fun x => [(V.int .i64) x.1, (V.int .i64) x.2.1, esl_TSo x.2.2]) fun l => (dI (at_ l 0), dI (at_ l 1), dsl_TSo (at_ l 2))
structure X_fo_6 where
 JA : Int
 Da : Int
 Sq : (Sl TSo)
 RM : (Sl TSo)
 SM : Int
 Oe : Int
def S_fo_6 : AR :=
 Ak Tryz.f61 6 [(0, .any), (1, .any), (2, hsl_TSo), (18, hsl_TSo), (19, .any), (20, .any)] [] [] X_fo_6 (fun x => [(V.int .i64) x.JA, (V.int .i64) x.Da, esl_TSo x.Sq, esl_TSo x.RM, (V.int .i64) x.SM, (V.int .i64) x.Oe]) fun l => ⟨dI (at_ l 0), dI (at_ l 1), dsl_TSo (at_ l 2), dsl_TSo (at_ l 3), dI (at_ l 4), dI (at_ l 5)⟩
structure X_fo_11 where
 Da : Int
 Sq : (Sl TSo)
def S_fo_11 : AR :=
 Ak Tryz.f61 11 [(1, .any), (2, hsl_TSo)] [] [] X_fo_11 (fun x => [(V.int .i64) x.Da, esl_TSo x.Sq]) fun l => ⟨dI (at_ l 0), dsl_TSo (at_ l 1)⟩
def tt_fo_11 (x : X_fo_11) : TT Tryz.prog R_fo :=
 (.call con_f17 x.Sq fun (y1 : R_f17) =>
 (.ret ((Bx.mk false (TSs.mk y1 x.Da)), 0)))
theorem sd_fo_11 (x : X_fo_11) : (tt_fo_11 x).AH :=
 (TT.sC fun _ => TT.sR)
def D_fo_11 : AV X_fo_11 R_fo := .of tt_fo_11
theorem ok_fo_11 : AZ J_fo S_fo_11 D_fo_11 :=
 lk mxk lbn sd_fo_11
def tt_fo_6 (D_fo_6 : AV X_fo_6 R_fo) (x : X_fo_6) : TT Tryz.prog R_fo :=
 (.ite (Bu x.Oe x.SM)
 (.need (BA x.Oe x.RM.n) <|
 (.call con_f1m (x.Oe, (x.JA, (x.Da, (x.RM.get (Int.toNat x.Oe))))) fun (y2 : R_f1m) =>
 (.ite (!y2)
 (.ret ((Bx.mk true (TSs.mk (Sl.mk true 0 (fun _i3 => (TSo.mk 0 0 0))) 0)), 3))
 (.Ac S_fo_6 D_fo_6 (X_fo_6.mk x.JA x.Da x.Sq x.RM x.SM (IntKind.i64.wrap (x.Oe + 1)))))))
 (.Ac S_fo_11 D_fo_11 (X_fo_11.mk x.Da x.Sq)))
theorem sd_fo_6 (D_fo_6 : AV X_fo_6 R_fo) (x : X_fo_6) : (tt_fo_6 D_fo_6 x).AH :=
 (TT.sI (TT.sN (TT.sC fun _ => (TT.sI TT.sR TT.sJ))) TT.sJ)
def D_fo_6 : AV X_fo_6 R_fo := AV.loop tt_fo_6
theorem ok_fo_6 : AZ J_fo S_fo_6 D_fo_6 :=
 BF fun D_fo_6 h_6 => lk mxk (lbc h_6 rfl (lbc ok_fo_11 rfl lbn)) (sd_fo_6 D_fo_6)
def tt_fo (x : X_fo) : TT Tryz.prog R_fo :=
 (.call con_f2t (x.fst, x.snd.fst) fun (y1 : R_f2t) =>
 (.ite (!y1)
 (.ret ((Bx.mk true (TSs.mk (Sl.mk true 0 (fun _i2 => (TSo.mk 0 0 0))) 0)), 1))
 (.ite (!(Ad ((x.snd.snd.n : Nat) : Int) x.fst))
 (.ret ((Bx.mk true (TSs.mk (Sl.mk true 0 (fun _i2 => (TSo.mk 0 0 0))) 0)), 3))
 (.Ac S_fo_6 D_fo_6 (X_fo_6.mk x.fst x.snd.fst x.snd.snd x.snd.snd ((x.snd.snd.n : Nat) : Int) 0)))))
theorem sd_fo (x : X_fo) : (tt_fo x).AH :=
 (TT.sC fun _ => (TT.sI TT.sR (TT.sI TT.sR TT.sJ)))
def D_fo : AV X_fo R_fo := .of tt_fo
def con_fo : BC Tryz.prog :=
 CH 61 J_fo S_fo D_fo 3 0 [.any, .any, hsl_TSo] (lk mxk (lbc ok_fo_11 rfl (lbc ok_fo_6 rfl lbn)) sd_fo)
end Go.Proofs.YtlhifcnjnmeknaaGreat
end
