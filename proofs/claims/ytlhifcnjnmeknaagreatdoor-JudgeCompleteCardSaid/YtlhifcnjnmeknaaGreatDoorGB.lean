/- What functions of the program come to, part B: no statement is proved here. -/
import Derived.Test.YtlhifcnjnmeknaaGreatDoorGA
noncomputable section
namespace Go.Proofs.YtlhifcnjnmeknaaGreatDoor
open Go Go.Vm Go.Proofs
set_option maxRecDepth 100000
set_option maxHeartbeats 4000000
abbrev X_fe : Type:=TEv × TFa
abbrev R_fe : Type:=Bool
abbrev RR_fe : Type:=Bool × TFa
abbrev p_fe (y : RR_fe) : TFa:=y.2
abbrev w_fe (x : X_fe) : TFa:=x.2
def J_fe : A9 Tryz.prog :=
 BF Tryz.prog Tryz.f29 103 [(3,3)] [(8,[.back (.loc 30 0),.back (.loc 26 0)]),(9,[.back (.loc 30 0),.back (.loc 26 0)]),(10,[.back (.loc 47 0),.back (.loc 43 0),.back (.loc 30 0),.back (.loc 26 0)]),(11,[.back (.loc 47 0),.back (.loc 43 0),.back (.loc 30 0),.back (.loc 26 0)]),(12,[.back (.loc 47 0),.back (.loc 43 0),.back (.loc 30 0),.back (.loc 26 0)]),(13,[.back (.loc 47 0),.back (.loc 43 0),.back (.loc 30 0),.back (.loc 26 0)]),(14,[.back (.loc 47 0),.back (.loc 43 0),.back (.loc 30 0),.back (.loc 26 0)]),(15,[.back (.loc 47 0),.back (.loc 43 0),.back (.loc 30 0),.back (.loc 26 0)]),(16,[.back (.loc 90 0),.back (.loc 86 0),.back (.loc 47 0),.back (.loc 43 0),.back (.loc 30 0),.back (.loc 26 0)])] [] [.back (.loc 90 0),.back (.loc 86 0),.back (.loc 47 0),.back (.loc 43 0),.back (.loc 30 0),.back (.loc 26 0)] [.any] [sh_TFa] [con_f19,con_f16,con_f1d,con_f15,con_f2z,con_f1e] RR_fe [] fun y=>[V.bool y.1,e_TFa y.2]
def S_fe : AM :=
 Ae Tryz.f29 2 1 X_fe (fun x=>[(V.ptr (.par 0) []),e_TEv x.1,e_TFa x.2]) fun l=>(d_TEv (at_ l 1),d_TFa (at_ l 2))
structure X_fe_16 where
 DG : TEv
 Ah : TFa
 BA : TAk
def S_fe_16 : AM :=
 Ad Tryz.f29 16 (an [0,3,5]) [sh_TFa] [(.loc 5 0,.any)] X_fe_16 (fun x=>[(V.ptr (.par 0) []),(CR e_TEv) x.DG,(V.ptr (.loc 5 0) []),e_TFa x.Ah,e_TAk x.BA]) fun l=>⟨(CS d_TEv) (at_ l 1),d_TFa (at_ l 3),d_TAk (at_ l 4)⟩
abbrev w_fe_16 (x : X_fe_16) : TFa:=(x.Ah)
def tt_fe_16 (x : X_fe_16) : TT Tryz.prog RR_fe :=
 (.call con_f2z x.DG fun (y1 : R_f2z) =>
 (.ite (!y1)
 (.ret (true,x.Ah))
 (.call con_f1d (x.DG,(x.BA,x.Ah)) fun (y2 : R_f1d) =>
 (.ret (y2,x.Ah)))))
theorem sd_fe_16 (x : X_fe_16) : (tt_fe_16 x).AH :=
 (TT.sC fun _=>(TT.sI TT.sR (TT.sC fun _=>TT.sR)))
theorem roT_fe_16 (x : X_fe_16) : TT.Ro p_fe (w_fe_16 x) (tt_fe_16 x) :=
 (TT.rC fun _=>(TT.rI (TT.rR rfl) (TT.rC fun _=>(TT.rR rfl))))
def D_fe_16 : AQ X_fe_16 RR_fe:=.of tt_fe_16
theorem ok_fe_16 : AV J_fe S_fe_16 D_fe_16 :=
 lk mxk lbn sd_fe_16
theorem ro_fe_16 : ∀ x y,D_fe_16.rel x y → p_fe y = w_fe_16 x :=
 roT_fe_16 
def tt_fe (x : X_fe) : TT Tryz.prog RR_fe :=
 (.call con_f15 (x.fst,x.snd) fun (y1 : R_f15) =>
 (.ite (!(AX y1 0))
 (.ret (false,x.snd))
 (.call con_f19 (x.fst.Thread,x.snd) fun (y2 : R_f19) =>
 (.ite (AX x.fst.Kind 5)
 (.call con_f16 (y2,x.snd) fun (y3 : R_f16) =>
 (.ite y3
 (.need (A0 x.fst.Ring x.snd.rings.n) <|
 (.need (((Nat.beq x.snd.rings.n x.snd.rings.n) && true) && (!(x.snd.rings.get ((0 : Nat) + (Int.toNat x.fst.Ring))).nil)) <|
 (.call con_f1e (x.snd.rings.get ((0 : Nat) + (Int.toNat x.fst.Ring))).x fun (y4 : R_f1e) =>
 (.need ((true && true) && (((Nat.beq x.snd.rings.n x.snd.rings.n) && (Nat.blt ((0 : Nat) + (Int.toNat x.fst.Ring)) x.snd.rings.n)) && (!(x.snd.rings.get ((0 : Nat) + (Int.toNat x.fst.Ring))).nil))) <|
 (.side (((fun v : Nat → V=>v = v) (fun i5=>(cond (Nat.beq i5 ((0 : Nat) + (Int.toNat x.fst.Ring))) (V.ptr (Id.loc 30 0) List.nil) (V.Ai (x.snd.rings.get i5).nil (V.cons (V.cons (V.int IntKind.u64 (x.snd.rings.get i5).x.AA.tail) (V.cons (V.A4 41 1 (x.snd.rings.get i5).x.AA.AD.nil (x.snd.rings.get i5).x.AA.AD.n (fun i6=>(V.int IntKind.u64 ((x.snd.rings.get i5).x.AA.AD.get i6)))) V.unit)) (V.cons (V.Ai (x.snd.rings.get i5).x.s.nil (V.cons (V.A4 206 3 (x.snd.rings.get i5).x.s.x.l.nil (x.snd.rings.get i5).x.s.x.l.n (fun i6=>(V.cons (V.int IntKind.u64 ((x.snd.rings.get i5).x.s.x.l.get i6).AO) (V.cons (V.int IntKind.u64 ((x.snd.rings.get i5).x.s.x.l.get i6).Value) (V.cons (V.int IntKind.i64 ((x.snd.rings.get i5).x.s.x.l.get i6).Left) V.unit))))) (V.cons (V.int IntKind.i64 (x.snd.rings.get i5).x.s.x.AW) V.unit))) (V.cons (V.int IntKind.u64 (x.snd.rings.get i5).x.most) (V.cons (V.bool (x.snd.rings.get i5).x.closed) V.unit)))))))) ∧ (((fun v : V=>v = v) (V.cons (V.cons (V.int IntKind.u64 (x.snd.rings.get ((0 : Nat) + (Int.toNat x.fst.Ring))).x.AA.tail) (V.cons (V.A4 41 1 (x.snd.rings.get ((0 : Nat) + (Int.toNat x.fst.Ring))).x.AA.AD.nil (x.snd.rings.get ((0 : Nat) + (Int.toNat x.fst.Ring))).x.AA.AD.n (fun i5=>(V.int IntKind.u64 ((x.snd.rings.get ((0 : Nat) + (Int.toNat x.fst.Ring))).x.AA.AD.get i5)))) V.unit)) (V.cons (V.Ai (x.snd.rings.get ((0 : Nat) + (Int.toNat x.fst.Ring))).x.s.nil (V.cons (V.A4 206 3 (x.snd.rings.get ((0 : Nat) + (Int.toNat x.fst.Ring))).x.s.x.l.nil (x.snd.rings.get ((0 : Nat) + (Int.toNat x.fst.Ring))).x.s.x.l.n (fun i5=>(V.cons (V.int IntKind.u64 ((x.snd.rings.get ((0 : Nat) + (Int.toNat x.fst.Ring))).x.s.x.l.get i5).AO) (V.cons (V.int IntKind.u64 ((x.snd.rings.get ((0 : Nat) + (Int.toNat x.fst.Ring))).x.s.x.l.get i5).Value) (V.cons (V.int IntKind.i64 ((x.snd.rings.get ((0 : Nat) + (Int.toNat x.fst.Ring))).x.s.x.l.get i5).Left) V.unit))))) (V.cons (V.int IntKind.i64 (x.snd.rings.get ((0 : Nat) + (Int.toNat x.fst.Ring))).x.s.x.AW) V.unit))) (V.cons (V.int IntKind.u64 (x.snd.rings.get ((0 : Nat) + (Int.toNat x.fst.Ring))).x.most) (V.cons (V.bool (x.snd.rings.get ((0 : Nat) + (Int.toNat x.fst.Ring))).x.closed) V.unit))))) ∧ ((fun v : V=>v = v) (V.Ai (x.snd.rings.get ((0 : Nat) + (Int.toNat x.fst.Ring))).nil (V.cons (V.cons (V.int IntKind.u64 (x.snd.rings.get ((0 : Nat) + (Int.toNat x.fst.Ring))).x.AA.tail) (V.cons (V.A4 41 1 (x.snd.rings.get ((0 : Nat) + (Int.toNat x.fst.Ring))).x.AA.AD.nil (x.snd.rings.get ((0 : Nat) + (Int.toNat x.fst.Ring))).x.AA.AD.n (fun i5=>(V.int IntKind.u64 ((x.snd.rings.get ((0 : Nat) + (Int.toNat x.fst.Ring))).x.AA.AD.get i5)))) V.unit)) (V.cons (V.Ai (x.snd.rings.get ((0 : Nat) + (Int.toNat x.fst.Ring))).x.s.nil (V.cons (V.A4 206 3 (x.snd.rings.get ((0 : Nat) + (Int.toNat x.fst.Ring))).x.s.x.l.nil (x.snd.rings.get ((0 : Nat) + (Int.toNat x.fst.Ring))).x.s.x.l.n (fun i5=>(V.cons (V.int IntKind.u64 ((x.snd.rings.get ((0 : Nat) + (Int.toNat x.fst.Ring))).x.s.x.l.get i5).AO) (V.cons (V.int IntKind.u64 ((x.snd.rings.get ((0 : Nat) + (Int.toNat x.fst.Ring))).x.s.x.l.get i5).Value) (V.cons (V.int IntKind.i64 ((x.snd.rings.get ((0 : Nat) + (Int.toNat x.fst.Ring))).x.s.x.l.get i5).Left) V.unit))))) (V.cons (V.int IntKind.i64 (x.snd.rings.get ((0 : Nat) + (Int.toNat x.fst.Ring))).x.s.x.AW) V.unit))) (V.cons (V.int IntKind.u64 (x.snd.rings.get ((0 : Nat) + (Int.toNat x.fst.Ring))).x.most) (V.cons (V.bool (x.snd.rings.get ((0 : Nat) + (Int.toNat x.fst.Ring))).x.closed) V.unit)))))))) <|
 (.need ((true && true) && (Nat.beq x.snd.rings.n x.snd.rings.n)) <|
 (.ret ((!y4),x.snd))))))))
 (.ret (false,x.snd))))
 (.ite (AX x.fst.Kind 7)
 (.call con_f16 (y2,x.snd) fun (y3 : R_f16) =>
 (.ite y3
 (.need (A0 x.fst.Ring x.snd.rings.n) <|
 (.need (((Nat.beq x.snd.rings.n x.snd.rings.n) && true) && (!(x.snd.rings.get ((0 : Nat) + (Int.toNat x.fst.Ring))).nil)) <|
 (.call con_f1e (x.snd.rings.get ((0 : Nat) + (Int.toNat x.fst.Ring))).x fun (y4 : R_f1e) =>
 (.need ((true && true) && (((Nat.beq x.snd.rings.n x.snd.rings.n) && (Nat.blt ((0 : Nat) + (Int.toNat x.fst.Ring)) x.snd.rings.n)) && (!(x.snd.rings.get ((0 : Nat) + (Int.toNat x.fst.Ring))).nil))) <|
 (.side (((fun v : Nat → V=>v = v) (fun i5=>(cond (Nat.beq i5 ((0 : Nat) + (Int.toNat x.fst.Ring))) (V.ptr (Id.loc 30 0) List.nil) (V.Ai (x.snd.rings.get i5).nil (V.cons (V.cons (V.int IntKind.u64 (x.snd.rings.get i5).x.AA.tail) (V.cons (V.A4 41 1 (x.snd.rings.get i5).x.AA.AD.nil (x.snd.rings.get i5).x.AA.AD.n (fun i6=>(V.int IntKind.u64 ((x.snd.rings.get i5).x.AA.AD.get i6)))) V.unit)) (V.cons (V.Ai (x.snd.rings.get i5).x.s.nil (V.cons (V.A4 206 3 (x.snd.rings.get i5).x.s.x.l.nil (x.snd.rings.get i5).x.s.x.l.n (fun i6=>(V.cons (V.int IntKind.u64 ((x.snd.rings.get i5).x.s.x.l.get i6).AO) (V.cons (V.int IntKind.u64 ((x.snd.rings.get i5).x.s.x.l.get i6).Value) (V.cons (V.int IntKind.i64 ((x.snd.rings.get i5).x.s.x.l.get i6).Left) V.unit))))) (V.cons (V.int IntKind.i64 (x.snd.rings.get i5).x.s.x.AW) V.unit))) (V.cons (V.int IntKind.u64 (x.snd.rings.get i5).x.most) (V.cons (V.bool (x.snd.rings.get i5).x.closed) V.unit)))))))) ∧ (((fun v : V=>v = v) (V.cons (V.cons (V.int IntKind.u64 (x.snd.rings.get ((0 : Nat) + (Int.toNat x.fst.Ring))).x.AA.tail) (V.cons (V.A4 41 1 (x.snd.rings.get ((0 : Nat) + (Int.toNat x.fst.Ring))).x.AA.AD.nil (x.snd.rings.get ((0 : Nat) + (Int.toNat x.fst.Ring))).x.AA.AD.n (fun i5=>(V.int IntKind.u64 ((x.snd.rings.get ((0 : Nat) + (Int.toNat x.fst.Ring))).x.AA.AD.get i5)))) V.unit)) (V.cons (V.Ai (x.snd.rings.get ((0 : Nat) + (Int.toNat x.fst.Ring))).x.s.nil (V.cons (V.A4 206 3 (x.snd.rings.get ((0 : Nat) + (Int.toNat x.fst.Ring))).x.s.x.l.nil (x.snd.rings.get ((0 : Nat) + (Int.toNat x.fst.Ring))).x.s.x.l.n (fun i5=>(V.cons (V.int IntKind.u64 ((x.snd.rings.get ((0 : Nat) + (Int.toNat x.fst.Ring))).x.s.x.l.get i5).AO) (V.cons (V.int IntKind.u64 ((x.snd.rings.get ((0 : Nat) + (Int.toNat x.fst.Ring))).x.s.x.l.get i5).Value) (V.cons (V.int IntKind.i64 ((x.snd.rings.get ((0 : Nat) + (Int.toNat x.fst.Ring))).x.s.x.l.get i5).Left) V.unit))))) (V.cons (V.int IntKind.i64 (x.snd.rings.get ((0 : Nat) + (Int.toNat x.fst.Ring))).x.s.x.AW) V.unit))) (V.cons (V.int IntKind.u64 (x.snd.rings.get ((0 : Nat) + (Int.toNat x.fst.Ring))).x.most) (V.cons (V.bool (x.snd.rings.get ((0 : Nat) + (Int.toNat x.fst.Ring))).x.closed) V.unit))))) ∧ ((fun v : V=>v = v) (V.Ai (x.snd.rings.get ((0 : Nat) + (Int.toNat x.fst.Ring))).nil (V.cons (V.cons (V.int IntKind.u64 (x.snd.rings.get ((0 : Nat) + (Int.toNat x.fst.Ring))).x.AA.tail) (V.cons (V.A4 41 1 (x.snd.rings.get ((0 : Nat) + (Int.toNat x.fst.Ring))).x.AA.AD.nil (x.snd.rings.get ((0 : Nat) + (Int.toNat x.fst.Ring))).x.AA.AD.n (fun i5=>(V.int IntKind.u64 ((x.snd.rings.get ((0 : Nat) + (Int.toNat x.fst.Ring))).x.AA.AD.get i5)))) V.unit)) (V.cons (V.Ai (x.snd.rings.get ((0 : Nat) + (Int.toNat x.fst.Ring))).x.s.nil (V.cons (V.A4 206 3 (x.snd.rings.get ((0 : Nat) + (Int.toNat x.fst.Ring))).x.s.x.l.nil (x.snd.rings.get ((0 : Nat) + (Int.toNat x.fst.Ring))).x.s.x.l.n (fun i5=>(V.cons (V.int IntKind.u64 ((x.snd.rings.get ((0 : Nat) + (Int.toNat x.fst.Ring))).x.s.x.l.get i5).AO) (V.cons (V.int IntKind.u64 ((x.snd.rings.get ((0 : Nat) + (Int.toNat x.fst.Ring))).x.s.x.l.get i5).Value) (V.cons (V.int IntKind.i64 ((x.snd.rings.get ((0 : Nat) + (Int.toNat x.fst.Ring))).x.s.x.l.get i5).Left) V.unit))))) (V.cons (V.int IntKind.i64 (x.snd.rings.get ((0 : Nat) + (Int.toNat x.fst.Ring))).x.s.x.AW) V.unit))) (V.cons (V.int IntKind.u64 (x.snd.rings.get ((0 : Nat) + (Int.toNat x.fst.Ring))).x.most) (V.cons (V.bool (x.snd.rings.get ((0 : Nat) + (Int.toNat x.fst.Ring))).x.closed) V.unit)))))))) <|
 (.need ((true && true) && (Nat.beq x.snd.rings.n x.snd.rings.n)) <|
 (.ret ((!y4),x.snd))))))))
 (.ret (false,x.snd))))
 (.ite (AX x.fst.Kind 6)
 (.call con_f16 (y2,x.snd) fun (y3 : R_f16) =>
 (.ite y3
 (.need (A0 x.fst.Ring x.snd.rings.n) <|
 (.need (((Nat.beq x.snd.rings.n x.snd.rings.n) && true) && (!(x.snd.rings.get ((0 : Nat) + (Int.toNat x.fst.Ring))).nil)) <|
 (.call con_f1e (x.snd.rings.get ((0 : Nat) + (Int.toNat x.fst.Ring))).x fun (y4 : R_f1e) =>
 (.need ((true && true) && (((Nat.beq x.snd.rings.n x.snd.rings.n) && (Nat.blt ((0 : Nat) + (Int.toNat x.fst.Ring)) x.snd.rings.n)) && (!(x.snd.rings.get ((0 : Nat) + (Int.toNat x.fst.Ring))).nil))) <|
 (.side (((fun v : Nat → V=>v = v) (fun i5=>(cond (Nat.beq i5 ((0 : Nat) + (Int.toNat x.fst.Ring))) (V.ptr (Id.loc 47 0) List.nil) (V.Ai (x.snd.rings.get i5).nil (V.cons (V.cons (V.int IntKind.u64 (x.snd.rings.get i5).x.AA.tail) (V.cons (V.A4 41 1 (x.snd.rings.get i5).x.AA.AD.nil (x.snd.rings.get i5).x.AA.AD.n (fun i6=>(V.int IntKind.u64 ((x.snd.rings.get i5).x.AA.AD.get i6)))) V.unit)) (V.cons (V.Ai (x.snd.rings.get i5).x.s.nil (V.cons (V.A4 206 3 (x.snd.rings.get i5).x.s.x.l.nil (x.snd.rings.get i5).x.s.x.l.n (fun i6=>(V.cons (V.int IntKind.u64 ((x.snd.rings.get i5).x.s.x.l.get i6).AO) (V.cons (V.int IntKind.u64 ((x.snd.rings.get i5).x.s.x.l.get i6).Value) (V.cons (V.int IntKind.i64 ((x.snd.rings.get i5).x.s.x.l.get i6).Left) V.unit))))) (V.cons (V.int IntKind.i64 (x.snd.rings.get i5).x.s.x.AW) V.unit))) (V.cons (V.int IntKind.u64 (x.snd.rings.get i5).x.most) (V.cons (V.bool (x.snd.rings.get i5).x.closed) V.unit)))))))) ∧ (((fun v : V=>v = v) (V.cons (V.cons (V.int IntKind.u64 (x.snd.rings.get ((0 : Nat) + (Int.toNat x.fst.Ring))).x.AA.tail) (V.cons (V.A4 41 1 (x.snd.rings.get ((0 : Nat) + (Int.toNat x.fst.Ring))).x.AA.AD.nil (x.snd.rings.get ((0 : Nat) + (Int.toNat x.fst.Ring))).x.AA.AD.n (fun i5=>(V.int IntKind.u64 ((x.snd.rings.get ((0 : Nat) + (Int.toNat x.fst.Ring))).x.AA.AD.get i5)))) V.unit)) (V.cons (V.Ai (x.snd.rings.get ((0 : Nat) + (Int.toNat x.fst.Ring))).x.s.nil (V.cons (V.A4 206 3 (x.snd.rings.get ((0 : Nat) + (Int.toNat x.fst.Ring))).x.s.x.l.nil (x.snd.rings.get ((0 : Nat) + (Int.toNat x.fst.Ring))).x.s.x.l.n (fun i5=>(V.cons (V.int IntKind.u64 ((x.snd.rings.get ((0 : Nat) + (Int.toNat x.fst.Ring))).x.s.x.l.get i5).AO) (V.cons (V.int IntKind.u64 ((x.snd.rings.get ((0 : Nat) + (Int.toNat x.fst.Ring))).x.s.x.l.get i5).Value) (V.cons (V.int IntKind.i64 ((x.snd.rings.get ((0 : Nat) + (Int.toNat x.fst.Ring))).x.s.x.l.get i5).Left) V.unit))))) (V.cons (V.int IntKind.i64 (x.snd.rings.get ((0 : Nat) + (Int.toNat x.fst.Ring))).x.s.x.AW) V.unit))) (V.cons (V.int IntKind.u64 (x.snd.rings.get ((0 : Nat) + (Int.toNat x.fst.Ring))).x.most) (V.cons (V.bool (x.snd.rings.get ((0 : Nat) + (Int.toNat x.fst.Ring))).x.closed) V.unit))))) ∧ ((fun v : V=>v = v) (V.Ai (x.snd.rings.get ((0 : Nat) + (Int.toNat x.fst.Ring))).nil (V.cons (V.cons (V.int IntKind.u64 (x.snd.rings.get ((0 : Nat) + (Int.toNat x.fst.Ring))).x.AA.tail) (V.cons (V.A4 41 1 (x.snd.rings.get ((0 : Nat) + (Int.toNat x.fst.Ring))).x.AA.AD.nil (x.snd.rings.get ((0 : Nat) + (Int.toNat x.fst.Ring))).x.AA.AD.n (fun i5=>(V.int IntKind.u64 ((x.snd.rings.get ((0 : Nat) + (Int.toNat x.fst.Ring))).x.AA.AD.get i5)))) V.unit)) (V.cons (V.Ai (x.snd.rings.get ((0 : Nat) + (Int.toNat x.fst.Ring))).x.s.nil (V.cons (V.A4 206 3 (x.snd.rings.get ((0 : Nat) + (Int.toNat x.fst.Ring))).x.s.x.l.nil (x.snd.rings.get ((0 : Nat) + (Int.toNat x.fst.Ring))).x.s.x.l.n (fun i5=>(V.cons (V.int IntKind.u64 ((x.snd.rings.get ((0 : Nat) + (Int.toNat x.fst.Ring))).x.s.x.l.get i5).AO) (V.cons (V.int IntKind.u64 ((x.snd.rings.get ((0 : Nat) + (Int.toNat x.fst.Ring))).x.s.x.l.get i5).Value) (V.cons (V.int IntKind.i64 ((x.snd.rings.get ((0 : Nat) + (Int.toNat x.fst.Ring))).x.s.x.l.get i5).Left) V.unit))))) (V.cons (V.int IntKind.i64 (x.snd.rings.get ((0 : Nat) + (Int.toNat x.fst.Ring))).x.s.x.AW) V.unit))) (V.cons (V.int IntKind.u64 (x.snd.rings.get ((0 : Nat) + (Int.toNat x.fst.Ring))).x.most) (V.cons (V.bool (x.snd.rings.get ((0 : Nat) + (Int.toNat x.fst.Ring))).x.closed) V.unit)))))))) <|
 (.need ((true && true) && (Nat.beq x.snd.rings.n x.snd.rings.n)) <|
 (.ret (y4,x.snd))))))))
 (.ret (false,x.snd))))
 (.ite (AX x.fst.Kind 8)
 (.ite (Bd x.snd.now x.fst.Value)
 (.ret ((BS (IntKind.u64.wrap (x.fst.Value - x.snd.now)) 1048576),x.snd))
 (.ret (false,x.snd)))
 (.ite (AX x.fst.Kind 10)
 (.ret ((!x.snd.ended),x.snd))
 (.ite (AX x.fst.Kind 1)
 (.call con_f1d (x.fst,(y2,x.snd)) fun (y3 : R_f1d) =>
 (.ite y3
 (.need (A0 x.fst.Ring x.snd.rings.n) <|
 (.need (((Nat.beq x.snd.rings.n x.snd.rings.n) && true) && (!(x.snd.rings.get ((0 : Nat) + (Int.toNat x.fst.Ring))).nil)) <|
 (.call con_f1e (x.snd.rings.get ((0 : Nat) + (Int.toNat x.fst.Ring))).x fun (y4 : R_f1e) =>
 (.need ((true && true) && (((Nat.beq x.snd.rings.n x.snd.rings.n) && (Nat.blt ((0 : Nat) + (Int.toNat x.fst.Ring)) x.snd.rings.n)) && (!(x.snd.rings.get ((0 : Nat) + (Int.toNat x.fst.Ring))).nil))) <|
 (.side (((fun v : Nat → V=>v = v) (fun i5=>(cond (Nat.beq i5 ((0 : Nat) + (Int.toNat x.fst.Ring))) (V.ptr (Id.loc 90 0) List.nil) (V.Ai (x.snd.rings.get i5).nil (V.cons (V.cons (V.int IntKind.u64 (x.snd.rings.get i5).x.AA.tail) (V.cons (V.A4 41 1 (x.snd.rings.get i5).x.AA.AD.nil (x.snd.rings.get i5).x.AA.AD.n (fun i6=>(V.int IntKind.u64 ((x.snd.rings.get i5).x.AA.AD.get i6)))) V.unit)) (V.cons (V.Ai (x.snd.rings.get i5).x.s.nil (V.cons (V.A4 206 3 (x.snd.rings.get i5).x.s.x.l.nil (x.snd.rings.get i5).x.s.x.l.n (fun i6=>(V.cons (V.int IntKind.u64 ((x.snd.rings.get i5).x.s.x.l.get i6).AO) (V.cons (V.int IntKind.u64 ((x.snd.rings.get i5).x.s.x.l.get i6).Value) (V.cons (V.int IntKind.i64 ((x.snd.rings.get i5).x.s.x.l.get i6).Left) V.unit))))) (V.cons (V.int IntKind.i64 (x.snd.rings.get i5).x.s.x.AW) V.unit))) (V.cons (V.int IntKind.u64 (x.snd.rings.get i5).x.most) (V.cons (V.bool (x.snd.rings.get i5).x.closed) V.unit)))))))) ∧ (((fun v : V=>v = v) (V.cons (V.cons (V.int IntKind.u64 (x.snd.rings.get ((0 : Nat) + (Int.toNat x.fst.Ring))).x.AA.tail) (V.cons (V.A4 41 1 (x.snd.rings.get ((0 : Nat) + (Int.toNat x.fst.Ring))).x.AA.AD.nil (x.snd.rings.get ((0 : Nat) + (Int.toNat x.fst.Ring))).x.AA.AD.n (fun i5=>(V.int IntKind.u64 ((x.snd.rings.get ((0 : Nat) + (Int.toNat x.fst.Ring))).x.AA.AD.get i5)))) V.unit)) (V.cons (V.Ai (x.snd.rings.get ((0 : Nat) + (Int.toNat x.fst.Ring))).x.s.nil (V.cons (V.A4 206 3 (x.snd.rings.get ((0 : Nat) + (Int.toNat x.fst.Ring))).x.s.x.l.nil (x.snd.rings.get ((0 : Nat) + (Int.toNat x.fst.Ring))).x.s.x.l.n (fun i5=>(V.cons (V.int IntKind.u64 ((x.snd.rings.get ((0 : Nat) + (Int.toNat x.fst.Ring))).x.s.x.l.get i5).AO) (V.cons (V.int IntKind.u64 ((x.snd.rings.get ((0 : Nat) + (Int.toNat x.fst.Ring))).x.s.x.l.get i5).Value) (V.cons (V.int IntKind.i64 ((x.snd.rings.get ((0 : Nat) + (Int.toNat x.fst.Ring))).x.s.x.l.get i5).Left) V.unit))))) (V.cons (V.int IntKind.i64 (x.snd.rings.get ((0 : Nat) + (Int.toNat x.fst.Ring))).x.s.x.AW) V.unit))) (V.cons (V.int IntKind.u64 (x.snd.rings.get ((0 : Nat) + (Int.toNat x.fst.Ring))).x.most) (V.cons (V.bool (x.snd.rings.get ((0 : Nat) + (Int.toNat x.fst.Ring))).x.closed) V.unit))))) ∧ ((fun v : V=>v = v) (V.Ai (x.snd.rings.get ((0 : Nat) + (Int.toNat x.fst.Ring))).nil (V.cons (V.cons (V.int IntKind.u64 (x.snd.rings.get ((0 : Nat) + (Int.toNat x.fst.Ring))).x.AA.tail) (V.cons (V.A4 41 1 (x.snd.rings.get ((0 : Nat) + (Int.toNat x.fst.Ring))).x.AA.AD.nil (x.snd.rings.get ((0 : Nat) + (Int.toNat x.fst.Ring))).x.AA.AD.n (fun i5=>(V.int IntKind.u64 ((x.snd.rings.get ((0 : Nat) + (Int.toNat x.fst.Ring))).x.AA.AD.get i5)))) V.unit)) (V.cons (V.Ai (x.snd.rings.get ((0 : Nat) + (Int.toNat x.fst.Ring))).x.s.nil (V.cons (V.A4 206 3 (x.snd.rings.get ((0 : Nat) + (Int.toNat x.fst.Ring))).x.s.x.l.nil (x.snd.rings.get ((0 : Nat) + (Int.toNat x.fst.Ring))).x.s.x.l.n (fun i5=>(V.cons (V.int IntKind.u64 ((x.snd.rings.get ((0 : Nat) + (Int.toNat x.fst.Ring))).x.s.x.l.get i5).AO) (V.cons (V.int IntKind.u64 ((x.snd.rings.get ((0 : Nat) + (Int.toNat x.fst.Ring))).x.s.x.l.get i5).Value) (V.cons (V.int IntKind.i64 ((x.snd.rings.get ((0 : Nat) + (Int.toNat x.fst.Ring))).x.s.x.l.get i5).Left) V.unit))))) (V.cons (V.int IntKind.i64 (x.snd.rings.get ((0 : Nat) + (Int.toNat x.fst.Ring))).x.s.x.AW) V.unit))) (V.cons (V.int IntKind.u64 (x.snd.rings.get ((0 : Nat) + (Int.toNat x.fst.Ring))).x.most) (V.cons (V.bool (x.snd.rings.get ((0 : Nat) + (Int.toNat x.fst.Ring))).x.closed) V.unit)))))))) <|
 (.need ((true && true) && (Nat.beq x.snd.rings.n x.snd.rings.n)) <|
 (.ret ((!y4),x.snd))))))))
 (.ret (false,x.snd))))
 (.jump S_fe_16 D_fe_16 (X_fe_16.mk x.fst x.snd y2)))))))))))
theorem sd_fe (x : X_fe) : (tt_fe x).AH :=
 (TT.sC fun _=>(TT.sI TT.sR (TT.sC fun _=>(TT.sI (TT.sC fun _=>(TT.sI (TT.sN (TT.sN (TT.sC fun _=>(TT.sN (TT.sS ⟨rfl,⟨rfl,rfl⟩⟩ (TT.sN TT.sR)))))) TT.sR)) (TT.sI (TT.sC fun _=>(TT.sI (TT.sN (TT.sN (TT.sC fun _=>(TT.sN (TT.sS ⟨rfl,⟨rfl,rfl⟩⟩ (TT.sN TT.sR)))))) TT.sR)) (TT.sI (TT.sC fun _=>(TT.sI (TT.sN (TT.sN (TT.sC fun _=>(TT.sN (TT.sS ⟨rfl,⟨rfl,rfl⟩⟩ (TT.sN TT.sR)))))) TT.sR)) (TT.sI (TT.sI TT.sR TT.sR) (TT.sI TT.sR (TT.sI (TT.sC fun _=>(TT.sI (TT.sN (TT.sN (TT.sC fun _=>(TT.sN (TT.sS ⟨rfl,⟨rfl,rfl⟩⟩ (TT.sN TT.sR)))))) TT.sR)) TT.sJ)))))))))
theorem roT_fe (x : X_fe) : TT.Ro p_fe (w_fe x) (tt_fe x) :=
 (TT.rC fun _=>(TT.rI (TT.rR rfl) (TT.rC fun _=>(TT.rI (TT.rC fun _=>(TT.rI (TT.rN (TT.rN (TT.rC fun _=>(TT.rN (TT.rS (TT.rN (TT.rR rfl))))))) (TT.rR rfl))) (TT.rI (TT.rC fun _=>(TT.rI (TT.rN (TT.rN (TT.rC fun _=>(TT.rN (TT.rS (TT.rN (TT.rR rfl))))))) (TT.rR rfl))) (TT.rI (TT.rC fun _=>(TT.rI (TT.rN (TT.rN (TT.rC fun _=>(TT.rN (TT.rS (TT.rN (TT.rR rfl))))))) (TT.rR rfl))) (TT.rI (TT.rI (TT.rR rfl) (TT.rR rfl)) (TT.rI (TT.rR rfl) (TT.rI (TT.rC fun _=>(TT.rI (TT.rN (TT.rN (TT.rC fun _=>(TT.rN (TT.rS (TT.rN (TT.rR rfl))))))) (TT.rR rfl))) (TT.rJ (ro_fe_16 _)))))))))))
def D_fe : AQ X_fe R_fe:=.ro (.of tt_fe) (fun y=>(y.1)) (fun y x=>(y,x.2)) fun x y h=>congrArg (fun o=>(y.1,o)) (roT_fe x y h)
def con_fe : A3 Tryz.prog :=
 C3 29 J_fe S_fe (.of tt_fe) D_fe (fun y x=>(y,x.2)) (fun y=>V.bool y) 2 1 [.any,.any] (lk mxk (lbc ok_fe_16 rfl lbn) sd_fe) (fun x=>⟨(nu_e_TFa : ∀ y,(e_TFa y).CV) (x.2),trivial⟩)
abbrev X_f30 : Type:=TRr
abbrev R_f30 : Type:=Int × Int × TRr
def J_f30 : A9 Tryz.prog :=
 BF Tryz.prog Tryz.f143 30 [] [] [] [] [.any,.any] [sh_TRr] [con_f1q] R_f30 [] fun y=>[V.CC (V.cons ((V.int .u64) y.1) (V.cons ((V.int .i64) y.2.1) (V.unit))),e_TRr y.2.2]
def S_f30 : AM :=
 Ae Tryz.f143 1 1 X_f30 (fun x=>[(V.ptr (.par 0) []),e_TRr x]) fun l=>(d_TRr (at_ l 1))
def tt_f30 (x : X_f30) : TT Tryz.prog R_f30 :=
 (.ite x.closed
 (.ret (0,(10,x)))
 (.call con_f1q x fun (y1 : R_f1q) =>
 (.ite y1
 (.ret (0,(8,x)))
 (.ret ((IntKind.u64.wrap ((IntKind.u64.wrap (x.AA.tail + 1)) - 1)),(0,(TRr.mk (TRc.mk (IntKind.u64.wrap (x.AA.tail + 1)) x.AA.AD) x.s x.most x.closed)))))))
theorem sd_f30 (x : X_f30) : (tt_f30 x).AH :=
 (TT.sI TT.sR (TT.sC fun _=>(TT.sI TT.sR TT.sR)))
def D_f30 : AQ X_f30 R_f30:=.of tt_f30
def con_f30 : A3 Tryz.prog :=
 BZ 143 J_f30 S_f30 D_f30 1 1 [.any] (lk mxk lbn sd_f30)
abbrev X_fx : Type:=(Ar TSo)
abbrev R_fx : Type:=(Sl TSo)
abbrev RR_fx : Type:=(Sl TSo) × (Ar TSo)
abbrev p_fx (y : RR_fx) : (Ar TSo):=y.2
abbrev w_fx (x : X_fx) : (Ar TSo):=x
def J_fx : A9 Tryz.prog :=
 BF Tryz.prog Tryz.f183 8 [(6,1)] [] [] [.shut 2] [hsl_TSo] [.any] [] RR_fx [] fun y=>[esl_TSo y.1,(Jy 3 e_TSo) y.2]
def S_fx : AM :=
 Ae Tryz.f183 1 1 X_fx (fun x=>[(V.own (.par 0) [] 3 x.n 0 x.n),(Jy 3 e_TSo) x]) fun l=>((Pz d_TSo) (at_ l 1))
def tt_fx (x : X_fx) : TT Tryz.prog RR_fx :=
 (.need (Nat.blt 0 x.n) <|
 (.need ((true && (Nat.beq x.n x.n)) && (room ((0 : Nat) + x.n) 24)) <|
 (.side (∀ i1 : Nat,((i1 < x.n) → ((true && (true && (true && true))) = true))) <|
 (.ret ((Sl.mk (cond (Nat.beq x.n 0) false false) ((0 : Nat) + x.n) (fun i1=>(TSo.mk (cond (Nat.blt i1 0) (0 : Int) (x.get ((0 : Nat) + (i1 - 0))).AO) (cond (Nat.blt i1 0) (0 : Int) (x.get ((0 : Nat) + (i1 - 0))).Value) (cond (Nat.blt i1 0) (0 : Int) (x.get ((0 : Nat) + (i1 - 0))).Left)))),x)))))
theorem sd_fx (x : X_fx) : (tt_fx x).AH :=
 (TT.sN (TT.sN (TT.sS (fun _ _=>rfl) TT.sR)))
theorem roT_fx (x : X_fx) : TT.Ro p_fx (w_fx x) (tt_fx x) :=
 (TT.rN (TT.rN (TT.rS (TT.rR rfl))))
def D_fx : AQ X_fx R_fx:=.ro (.of tt_fx) (fun y=>(y.1)) (fun y x=>(y,x)) fun x y h=>congrArg (fun o=>(y.1,o)) (roT_fx x y h)
def con_fx : A3 Tryz.prog :=
 C3 183 J_fx S_fx (.of tt_fx) D_fx (fun y x=>(y,x)) (fun y=>esl_TSo y) 1 1 [.any] (lk mxk lbn sd_fx) (fun x=>⟨(fun _ _=>(nu_e_TSo) _ : ∀ y,((Jy 3 e_TSo) y).CV) (x),trivial⟩)
abbrev X_f24 : Type:=TSs
abbrev R_f24 : Type:=(Sl TSo)
abbrev RR_f24 : Type:=(Sl TSo) × TSs
abbrev p_f24 (y : RR_f24) : TSs:=y.2
abbrev w_f24 (x : X_f24) : TSs:=x
def J_f24 : A9 Tryz.prog :=
 BF Tryz.prog Tryz.f152 10 [] [] [] [.back (.loc 8 0),.shut 2] [hsl_TSo] [sh_TSs] [con_fx] RR_f24 [] fun y=>[esl_TSo y.1,e_TSs y.2]
def S_f24 : AM :=
 Ae Tryz.f152 1 1 X_f24 (fun x=>[(V.ptr (.par 0) []),e_TSs x]) fun l=>(d_TSs (at_ l 1))
def tt_f24 (x : X_f24) : TT Tryz.prog RR_f24 :=
 (.call con_fx (Ar.mk x.l.n x.l.get) fun (y1 : R_fx) =>
 (.need ((true && true) && (Nat.beq x.l.n x.l.n)) <|
 (.ret (y1,x))))
theorem sd_f24 (x : X_f24) : (tt_f24 x).AH :=
 (TT.sC fun _=>(TT.sN TT.sR))
theorem roT_f24 (x : X_f24) : TT.Ro p_f24 (w_f24 x) (tt_f24 x) :=
 (TT.rC fun _=>(TT.rN (TT.rR rfl)))
def D_f24 : AQ X_f24 R_f24:=.ro (.of tt_f24) (fun y=>(y.1)) (fun y x=>(y,x)) fun x y h=>congrArg (fun o=>(y.1,o)) (roT_f24 x y h)
def con_f24 : A3 Tryz.prog :=
 C3 152 J_f24 S_f24 (.of tt_f24) D_f24 (fun y x=>(y,x)) (fun y=>esl_TSo y) 1 1 [.any] (lk mxk lbn sd_f24) (fun x=>⟨(nu_e_TSs : ∀ y,(e_TSs y).CV) (x),trivial⟩)
abbrev X_f13 : Type:=(Ar Int)
abbrev R_f13 : Type:=(Sl Int)
abbrev RR_f13 : Type:=(Sl Int) × (Ar Int)
abbrev p_f13 (y : RR_f13) : (Ar Int):=y.2
abbrev w_f13 (x : X_f13) : (Ar Int):=x
def J_f13 : A9 Tryz.prog :=
 BF Tryz.prog Tryz.f113 8 [(6,1)] [] [] [.shut 2] [Ep] [.any] [] RR_f13 [] fun y=>[EU y.1,(Jy 1 (V.int .u64)) y.2]
def S_f13 : AM :=
 Ae Tryz.f113 1 1 X_f13 (fun x=>[(V.own (.par 0) [] 1 x.n 0 x.n),(Jy 1 (V.int .u64)) x]) fun l=>((Pz dI) (at_ l 1))
def tt_f13 (x : X_f13) : TT Tryz.prog RR_f13 :=
 (.need (Nat.blt 0 x.n) <|
 (.need ((true && (Nat.beq x.n x.n)) && (room ((0 : Nat) + x.n) 8)) <|
 (.side (∀ i1 : Nat,((i1 < x.n) → (true = true))) <|
 (.ret ((Sl.mk (cond (Nat.beq x.n 0) false false) ((0 : Nat) + x.n) (fun i1=>(cond (Nat.blt i1 0) (0 : Int) (x.get ((0 : Nat) + (i1 - 0)))))),x)))))
theorem sd_f13 (x : X_f13) : (tt_f13 x).AH :=
 (TT.sN (TT.sN (TT.sS (fun _ _=>rfl) TT.sR)))
theorem roT_f13 (x : X_f13) : TT.Ro p_f13 (w_f13 x) (tt_f13 x) :=
 (TT.rN (TT.rN (TT.rS (TT.rR rfl))))
def D_f13 : AQ X_f13 R_f13:=.ro (.of tt_f13) (fun y=>(y.1)) (fun y x=>(y,x)) fun x y h=>congrArg (fun o=>(y.1,o)) (roT_f13 x y h)
def con_f13 : A3 Tryz.prog :=
 C3 113 J_f13 S_f13 (.of tt_f13) D_f13 (fun y x=>(y,x)) (fun y=>EU y) 1 1 [.any] (lk mxk lbn sd_f13) (fun x=>⟨(fun _ _=>trivial : ∀ y,((Jy 1 (V.int .u64)) y).CV) (x),trivial⟩)
structure TRs where
 Aq : Int
 AY : (Sl Int)
 Aw : Bool
 Ao : (Sl TSo)
def d_TRs (v : V) : TRs :=
 ⟨dI (fd v 0),FO (fd v 1),dB (fd v 2),dsl_TSo (fd v 3)⟩
def e_TRs (x : TRs) : V :=
 V.cons ((V.int .u64) x.Aq) (V.cons (EU x.AY) (V.cons (V.bool x.Aw) (V.cons (esl_TSo x.Ao) (V.unit))))
theorem nu_e_TRs (x : TRs) : (e_TRs x).CV:=⟨trivial,trivial,trivial,trivial,trivial⟩
def sh_TRs : Sh:=(.cons .any (.cons Ep (.cons .any (.cons hsl_TSo .any))))
abbrev X_f1u : Type:=TRr
abbrev R_f1u : Type:=TRs
abbrev RR_f1u : Type:=TRs × TRr
abbrev p_f1u (y : RR_f1u) : TRr:=y.2
abbrev w_f1u (x : X_f1u) : TRr:=x
def J_f1u : A9 Tryz.prog :=
 BF Tryz.prog Tryz.f114 27 [] [] [(3,[.Ir (.par 0) [.CI 0 0,.CI 1 1] 15,.Ir (.par 0) [.CI 1 2] 24])] [.back (.loc 24 0),.back (.loc 15 0)] [sh_TRs] [sh_TRr] [con_f13,con_f24] RR_f1u [(0,[⟨.loc 15 0,.par 0,[.CI 0 0,.CI 1 1],none,none⟩,⟨.loc 24 0,.par 0,[.CI 1 2],none,none⟩])] fun y=>[e_TRs y.1,e_TRr y.2]
def S_f1u : AM :=
 Ae Tryz.f114 1 1 X_f1u (fun x=>[(V.ptr (.par 0) []),e_TRr x]) fun l=>(d_TRr (at_ l 1))
def tt_f1u (x : X_f1u) : TT Tryz.prog RR_f1u :=
 (.need ((true && true) && (!x.s.nil)) <|
 (.call con_f13 (Ar.mk x.AA.AD.n x.AA.AD.get) fun (y1 : R_f13) =>
 (.call con_f24 x.s.x fun (y2 : R_f24) =>
 (.need ((true && true) && (!x.s.nil)) <|
 (.side ((fun v : V=>v = v) (V.cons (V.A4 206 3 x.s.x.l.nil x.s.x.l.n (fun i3=>(V.cons (V.int IntKind.u64 (x.s.x.l.get i3).AO) (V.cons (V.int IntKind.u64 (x.s.x.l.get i3).Value) (V.cons (V.int IntKind.i64 (x.s.x.l.get i3).Left) V.unit))))) (V.cons (V.int IntKind.i64 x.s.x.AW) V.unit))) <|
 (.need ((true && true) && (Nat.beq x.AA.AD.n x.AA.AD.n)) <|
 (.ret ((TRs.mk x.AA.tail y1 x.closed y2),x))))))))
theorem sd_f1u (x : X_f1u) : (tt_f1u x).AH :=
 (TT.sN (TT.sC fun _=>(TT.sC fun _=>(TT.sN (TT.sS rfl (TT.sN TT.sR))))))
theorem roT_f1u (x : X_f1u) : TT.Ro p_f1u (w_f1u x) (tt_f1u x) :=
 (TT.rN (TT.rC fun _=>(TT.rC fun _=>(TT.rN (TT.rS (TT.rN (TT.rR rfl)))))))
def D_f1u : AQ X_f1u R_f1u:=.ro (.of tt_f1u) (fun y=>(y.1)) (fun y x=>(y,x)) fun x y h=>congrArg (fun o=>(y.1,o)) (roT_f1u x y h)
def con_f1u : A3 Tryz.prog :=
 C3 114 J_f1u S_f1u (.of tt_f1u) D_f1u (fun y x=>(y,x)) (fun y=>e_TRs y) 1 1 [.any] (lk mxk lbn sd_f1u) (fun x=>⟨(nu_e_TRr : ∀ y,(e_TRr y).CV) (x),trivial⟩)
abbrev X_f22 : Type:=Int × Int × Int × TSo
abbrev R_f22 : Type:=Bool
def J_f22 : A9 Tryz.prog :=
 BF Tryz.prog Tryz.f189 45 [(7,3)] [] [] [] [.any] [] [] R_f22 [] fun y=>[V.bool y]
def S_f22 : AM :=
 Ae Tryz.f189 4 0 X_f22 (fun x=>[(V.int .i64) x.1,(V.int .i64) x.2.1,(V.int .i64) x.2.2.1,e_TSo x.2.2.2]) fun l=>(dI (at_ l 0),dI (at_ l 1),dI (at_ l 2),d_TSo (at_ l 3))
structure X_f22_3 where
 Ik : Int
 Un : TSo
def S_f22_3 : AM :=
 Ad Tryz.f189 3 (an [2,7]) [] [] X_f22_3 (fun x=>[(V.int .i64) x.Ik,(CR e_TSo) x.Un]) fun l=>⟨dI (at_ l 0),(CS d_TSo) (at_ l 1)⟩
def tt_f22_3 (x : X_f22_3) : TT Tryz.prog R_f22 :=
 (.ite (AX (Int.tmod x.Un.AO 2) 0)
 (.ite (AX x.Un.Value 0)
 (.ret (AX x.Un.Left 0))
 (.ret false))
 (.ite (Bd 1 x.Un.Left)
 (.need (Bd 0 x.Ik) <|
 (.ret (BS x.Un.Left (shl IntKind.i64 1 x.Ik))))
 (.ret false)))
theorem sd_f22_3 (x : X_f22_3) : (tt_f22_3 x).AH :=
 (TT.sI (TT.sI TT.sR TT.sR) (TT.sI (TT.sN TT.sR) TT.sR))
def D_f22_3 : AQ X_f22_3 R_f22:=.of tt_f22_3
theorem ok_f22_3 : AV J_f22 S_f22_3 D_f22_3 :=
 lk mxk lbn sd_f22_3
def tt_f22 (x : X_f22) : TT Tryz.prog R_f22 :=
 (.ite (Bd 9223372036854775808 x.snd.snd.snd.AO)
 (.ret false)
 (.need (!(AX (IntKind.u64.wrap x.snd.fst) 0)) <|
 (.ite (!(AX (Int.tmod (IntKind.u64.wrap (Int.tdiv x.snd.snd.snd.AO 2)) (IntKind.u64.wrap x.snd.fst)) (IntKind.u64.wrap x.fst)))
 (.ret false)
 (.jump S_f22_3 D_f22_3 (X_f22_3.mk x.snd.snd.fst x.snd.snd.snd)))))
theorem sd_f22 (x : X_f22) : (tt_f22 x).AH :=
 (TT.sI TT.sR (TT.sN (TT.sI TT.sR TT.sJ)))
def D_f22 : AQ X_f22 R_f22:=.of tt_f22
def con_f22 : A3 Tryz.prog :=
 BZ 189 J_f22 S_f22 D_f22 4 0 [.any,.any,.any,.any] (lk mxk (lbc ok_f22_3 rfl lbn) sd_f22)
abbrev X_f1l : Type:=(Sl TSo)
abbrev R_f1l : Type:=(Sl TSo)
def J_f1l : A9 Tryz.prog :=
 BF Tryz.prog Tryz.f183 8 [(5,1),(6,1)] [] [] [.shut 2] [hosl_TSo] [] [] R_f1l [] fun y=>[eosl_TSo y]
def S_f1l : AM :=
 Ae Tryz.f183 1 0 X_f1l (fun x=>[esl_TSo x]) fun l=>(dsl_TSo (at_ l 0))
def tt_f1l (x : X_f1l) : TT Tryz.prog R_f1l :=
 (.ite x.nil
 (.ret (Sl.mk true 0 (fun _i1=>(TSo.mk 0 0 0))))
 (.need (true && (room ((0 : Nat) + x.n) 24)) <|
 (.ret (Sl.mk (cond (Nat.beq x.n 0) false false) ((0 : Nat) + x.n) (fun i1=>(TSo.mk (cond (Nat.blt i1 0) (0 : Int) (x.get (i1 - 0)).AO) (cond (Nat.blt i1 0) (0 : Int) (x.get (i1 - 0)).Value) (cond (Nat.blt i1 0) (0 : Int) (x.get (i1 - 0)).Left)))))))
theorem sd_f1l (x : X_f1l) : (tt_f1l x).AH :=
 (TT.sI TT.sR (TT.sN TT.sR))
def D_f1l : AQ X_f1l R_f1l:=.of tt_f1l
def con_f1l : A3 Tryz.prog :=
 BZ 183 J_f1l S_f1l D_f1l 1 0 [hsl_TSo] (lk mxk lbn sd_f1l)
abbrev X_fy : Type:=Int × Int × (Sl TSo)
abbrev R_fy : Type:=(Bx TSs) × Int
def J_fy : A9 Tryz.prog :=
 BF Tryz.prog Tryz.f161 37 [(32,1)] [] [] [.shut 6] [hbox_TSs,.any] [] [con_f1l,con_f3t,con_f22] R_fy [] fun y=>[V.CC (V.cons (ebox_TSs y.1) (V.cons ((V.int .i64) y.2) (V.unit)))]
def S_fy : AM :=
 Ae Tryz.f161 3 0 X_fy (fun x=>[(V.int .i64) x.1,(V.int .i64) x.2.1,esl_TSo x.2.2]) fun l=>(dI (at_ l 0),dI (at_ l 1),dsl_TSo (at_ l 2))
structure X_fy_6 where
 EX : Int
 EH : Int
 Up : (Sl TSo)
 TJ : (Sl TSo)
 UP : Int
 QT : Int
def S_fy_6 : AM :=
 Ad Tryz.f161 6 [(0,.any),(1,.any),(2,hsl_TSo),(18,hsl_TSo),(19,.any),(20,.any)] [] [] X_fy_6 (fun x=>[(V.int .i64) x.EX,(V.int .i64) x.EH,esl_TSo x.Up,esl_TSo x.TJ,(V.int .i64) x.UP,(V.int .i64) x.QT]) fun l=>⟨dI (at_ l 0),dI (at_ l 1),dsl_TSo (at_ l 2),dsl_TSo (at_ l 3),dI (at_ l 4),dI (at_ l 5)⟩
structure X_fy_11 where
 EH : Int
 Up : (Sl TSo)
def S_fy_11 : AM :=
 Ad Tryz.f161 11 [(1,.any),(2,hsl_TSo)] [] [] X_fy_11 (fun x=>[(V.int .i64) x.EH,esl_TSo x.Up]) fun l=>⟨dI (at_ l 0),dsl_TSo (at_ l 1)⟩
def tt_fy_11 (x : X_fy_11) : TT Tryz.prog R_fy :=
 (.call con_f1l x.Up fun (y1 : R_f1l) =>
 (.ret ((Bx.mk false (TSs.mk y1 x.EH)),0)))
theorem sd_fy_11 (x : X_fy_11) : (tt_fy_11 x).AH :=
 (TT.sC fun _=>TT.sR)
def D_fy_11 : AQ X_fy_11 R_fy:=.of tt_fy_11
theorem ok_fy_11 : AV J_fy S_fy_11 D_fy_11 :=
 lk mxk lbn sd_fy_11
def tt_fy_6 (D_fy_6 : AQ X_fy_6 R_fy) (x : X_fy_6) : TT Tryz.prog R_fy :=
 (.ite (BS x.QT x.UP)
 (.need (A0 x.QT x.TJ.n) <|
 (.call con_f22 (x.QT,(x.EX,(x.EH,(x.TJ.get (Int.toNat x.QT))))) fun (y2 : R_f22) =>
 (.ite (!y2)
 (.ret ((Bx.mk true (TSs.mk (Sl.mk true 0 (fun _i3=>(TSo.mk 0 0 0))) 0)),3))
 (.jump S_fy_6 D_fy_6 (X_fy_6.mk x.EX x.EH x.Up x.TJ x.UP (IntKind.i64.wrap (x.QT + 1)))))))
 (.jump S_fy_11 D_fy_11 (X_fy_11.mk x.EH x.Up)))
theorem sd_fy_6 (D_fy_6 : AQ X_fy_6 R_fy) (x : X_fy_6) : (tt_fy_6 D_fy_6 x).AH :=
 (TT.sI (TT.sN (TT.sC fun _=>(TT.sI TT.sR TT.sJ))) TT.sJ)
def D_fy_6 : AQ X_fy_6 R_fy:=AQ.loop tt_fy_6
theorem ok_fy_6 : AV J_fy S_fy_6 D_fy_6 :=
 Az fun D_fy_6 h_6=>lk mxk (lbc h_6 rfl (lbc ok_fy_11 rfl lbn)) (sd_fy_6 D_fy_6)
def tt_fy (x : X_fy) : TT Tryz.prog R_fy :=
 (.call con_f3t (x.fst,x.snd.fst) fun (y1 : R_f3t) =>
 (.ite (!y1)
 (.ret ((Bx.mk true (TSs.mk (Sl.mk true 0 (fun _i2=>(TSo.mk 0 0 0))) 0)),1))
 (.ite (!(AX ((x.snd.snd.n : Nat) : Int) x.fst))
 (.ret ((Bx.mk true (TSs.mk (Sl.mk true 0 (fun _i2=>(TSo.mk 0 0 0))) 0)),3))
 (.jump S_fy_6 D_fy_6 (X_fy_6.mk x.fst x.snd.fst x.snd.snd x.snd.snd ((x.snd.snd.n : Nat) : Int) 0)))))
theorem sd_fy (x : X_fy) : (tt_fy x).AH :=
 (TT.sC fun _=>(TT.sI TT.sR (TT.sI TT.sR TT.sJ)))
def D_fy : AQ X_fy R_fy:=.of tt_fy
def con_fy : A3 Tryz.prog :=
 BZ 161 J_fy S_fy D_fy 3 0 [.any,.any,hsl_TSo] (lk mxk (lbc ok_fy_11 rfl (lbc ok_fy_6 rfl lbn)) sd_fy)
abbrev X_f2 : Type:=TSo × TRr
abbrev R_f2 : Type:=Bool
abbrev RR_f2 : Type:=Bool × TRr
abbrev p_f2 (y : RR_f2) : TRr:=y.2
abbrev w_f2 (x : X_f2) : TRr:=x.2
def J_f2 : A9 Tryz.prog :=
 BF Tryz.prog Tryz.f162 74 [(3,3)] [(9,[.back (.loc 30 0)]),(11,[.back (.loc 30 0)]),(13,[.back (.loc 30 0)])] [] [.back (.loc 30 0)] [.any] [sh_TRr] [] RR_f2 [(6,[⟨.loc 30 0,.par 0,[.CI 0 0,.CI 1 1],none,none⟩]),(12,[⟨.loc 30 0,.par 0,[.CI 0 0,.CI 1 1],none,none⟩])] fun y=>[V.bool y.1,e_TRr y.2]
def S_f2 : AM :=
 Ae Tryz.f162 2 1 X_f2 (fun x=>[(V.ptr (.par 0) []),e_TSo x.1,e_TRr x.2]) fun l=>(d_TSo (at_ l 1),d_TRr (at_ l 2))
structure X_f2_5 where
 NH : TSo
 KB : Int
 Cb : Bool
 Ah : TRr
def S_f2_5 : AM :=
 Ad Tryz.f162 5 (an [0,3,5,6]) [sh_TRr] [] X_f2_5 (fun x=>[(V.ptr (.par 0) []),(CR e_TSo) x.NH,(V.int .u64) x.KB,V.bool x.Cb,e_TRr x.Ah]) fun l=>⟨(CS d_TSo) (at_ l 1),dI (at_ l 2),dB (at_ l 3),d_TRr (at_ l 4)⟩
structure X_f2_6 where
 NH : TSo
 KB : Int
 Cb : Bool
 FU : Int
 FT : Int
 Ah : TRr
def S_f2_6 : AM :=
 Ad Tryz.f162 6 (an [0,3,5,6,30,31,32]) [sh_TRr] [(.loc 30 0,.any)] X_f2_6 (fun x=>[(V.ptr (.par 0) []),(CR e_TSo) x.NH,(V.int .u64) x.KB,V.bool x.Cb,(V.own (.loc 30 0) [] 1 x.Ah.AA.AD.n 0 x.Ah.AA.AD.n),(V.int .i64) x.FU,(V.int .i64) x.FT,V.cons (V.cons ((V.int .u64) x.Ah.AA.tail) (V.cons (V.Bl (.loc 30 0) 41 1 x.Ah.AA.AD.nil x.Ah.AA.AD.n) (V.unit))) (V.cons (ebox_TSs x.Ah.s) (V.cons ((V.int .u64) x.Ah.most) (V.cons (V.bool x.Ah.closed) (V.unit)))),(V.arr 1 x.Ah.AA.AD.n fun i=>(V.int .u64) (x.Ah.AA.AD.get i))]) fun l=>⟨(CS d_TSo) (at_ l 1),dI (at_ l 2),dB (at_ l 3),dI (at_ l 5),dI (at_ l 6),{ d_TRr (at_ l 7) with AA.AD:=⟨(S3 (fd (fd (at_ l 7) 0) 1)).nil,(S3 (fd (fd (at_ l 7) 0) 1)).n,(Pz dI (at_ l 8)).get⟩ }⟩
structure X_f2_12 where
 NH : TSo
 KB : Int
 Cb : Bool
 FU : Int
 FT : Int
 Ah : TRr
def S_f2_12 : AM :=
 Ad Tryz.f162 12 (an [0,3,5,6,30,31,32]) [sh_TRr] [(.loc 30 0,.any)] X_f2_12 (fun x=>[(V.ptr (.par 0) []),(CR e_TSo) x.NH,(V.int .u64) x.KB,V.bool x.Cb,(V.own (.loc 30 0) [] 1 x.Ah.AA.AD.n 0 x.Ah.AA.AD.n),(V.int .i64) x.FU,(V.int .i64) x.FT,V.cons (V.cons ((V.int .u64) x.Ah.AA.tail) (V.cons (V.Bl (.loc 30 0) 41 1 x.Ah.AA.AD.nil x.Ah.AA.AD.n) (V.unit))) (V.cons (ebox_TSs x.Ah.s) (V.cons ((V.int .u64) x.Ah.most) (V.cons (V.bool x.Ah.closed) (V.unit)))),(V.arr 1 x.Ah.AA.AD.n fun i=>(V.int .u64) (x.Ah.AA.AD.get i))]) fun l=>⟨(CS d_TSo) (at_ l 1),dI (at_ l 2),dB (at_ l 3),dI (at_ l 5),dI (at_ l 6),{ d_TRr (at_ l 7) with AA.AD:=⟨(S3 (fd (fd (at_ l 7) 0) 1)).nil,(S3 (fd (fd (at_ l 7) 0) 1)).n,(Pz dI (at_ l 8)).get⟩ }⟩
abbrev w_f2_5 (x : X_f2_5) : TRr:=(x.Ah)
abbrev w_f2_6 (x : X_f2_6) : TRr:=(x.Ah)
abbrev w_f2_12 (x : X_f2_12) : TRr:=(x.Ah)
def tt_f2_12 (D_f2_6 : AQ X_f2_6 RR_f2) (x : X_f2_12) : TT Tryz.prog RR_f2 :=
 (.jump S_f2_6 D_f2_6 (X_f2_6.mk x.NH x.KB x.Cb x.FU (IntKind.i64.wrap (x.FT + 1)) x.Ah))
theorem sd_f2_12 (D_f2_6 : AQ X_f2_6 RR_f2) (x : X_f2_12) : (tt_f2_12 D_f2_6 x).AH :=
 TT.sJ
theorem roT_f2_12 (D_f2_6 : AQ X_f2_6 RR_f2) (r6 : ∀ x y,D_f2_6.rel x y → p_f2 y = w_f2_6 x) (x : X_f2_12) : TT.Ro p_f2 (w_f2_12 x) (tt_f2_12 D_f2_6 x) :=
 (TT.rJ (r6 _))
def D_f2_12 (D_f2_6 : AQ X_f2_6 RR_f2) : AQ X_f2_12 RR_f2:=.of (tt_f2_12 D_f2_6)
theorem ok_f2_12 (D_f2_6 : AQ X_f2_6 RR_f2) (h_6 : AV J_f2 S_f2_6 D_f2_6) : AV J_f2 S_f2_12 (D_f2_12 D_f2_6) :=
 lk mxk (lbc h_6 rfl lbn) (sd_f2_12 D_f2_6)
theorem ro_f2_12 (D_f2_6 : AQ X_f2_6 RR_f2) (r6 : ∀ x y,D_f2_6.rel x y → p_f2 y = w_f2_6 x) : ∀ x y,(D_f2_12 D_f2_6).rel x y → p_f2 y = w_f2_12 x :=
 roT_f2_12 D_f2_6 r6
def tt_f2_6 (D_f2_6 : AQ X_f2_6 RR_f2) (x : X_f2_6) : TT Tryz.prog RR_f2 :=
 (.ite (BS x.FT x.FU)
 (.need (A0 x.FT x.Ah.AA.AD.n) <|
 (.need ((Nat.beq x.Ah.AA.AD.n x.Ah.AA.AD.n) && true) <|
 (.ite x.Cb
 (.need (Bd 0 x.FT) <|
 (.ite (AX (Vm.bits .and IntKind.i64 (shr IntKind.i64 x.NH.Left x.FT) 1) 0)
 (.ite (Bd (x.Ah.AA.AD.get ((0 : Nat) + (Int.toNat x.FT))) x.KB)
 (.need ((true && true) && (Nat.beq x.Ah.AA.AD.n x.Ah.AA.AD.n)) <|
 (.ret (false,x.Ah)))
 (.ite (!x.Cb)
 (.ite (Bd x.Ah.most x.KB)
 (.ite (Bd (x.Ah.AA.AD.get ((0 : Nat) + (Int.toNat x.FT))) (IntKind.u64.wrap (x.KB - x.Ah.most)))
 (.need ((true && true) && (Nat.beq x.Ah.AA.AD.n x.Ah.AA.AD.n)) <|
 (.ret (false,x.Ah)))
 (.jump S_f2_12 (D_f2_12 D_f2_6) (X_f2_12.mk x.NH x.KB x.Cb x.FU x.FT x.Ah)))
 (.jump S_f2_12 (D_f2_12 D_f2_6) (X_f2_12.mk x.NH x.KB x.Cb x.FU x.FT x.Ah)))
 (.jump S_f2_12 (D_f2_12 D_f2_6) (X_f2_12.mk x.NH x.KB x.Cb x.FU x.FT x.Ah))))
 (.ite (!x.Cb)
 (.ite (Bd x.Ah.most x.KB)
 (.ite (Bd (x.Ah.AA.AD.get ((0 : Nat) + (Int.toNat x.FT))) (IntKind.u64.wrap (x.KB - x.Ah.most)))
 (.need ((true && true) && (Nat.beq x.Ah.AA.AD.n x.Ah.AA.AD.n)) <|
 (.ret (false,x.Ah)))
 (.jump S_f2_12 (D_f2_12 D_f2_6) (X_f2_12.mk x.NH x.KB x.Cb x.FU x.FT x.Ah)))
 (.jump S_f2_12 (D_f2_12 D_f2_6) (X_f2_12.mk x.NH x.KB x.Cb x.FU x.FT x.Ah)))
 (.jump S_f2_12 (D_f2_12 D_f2_6) (X_f2_12.mk x.NH x.KB x.Cb x.FU x.FT x.Ah)))))
 (.ite (!x.Cb)
 (.ite (Bd x.Ah.most x.KB)
 (.ite (Bd (x.Ah.AA.AD.get ((0 : Nat) + (Int.toNat x.FT))) (IntKind.u64.wrap (x.KB - x.Ah.most)))
 (.need ((true && true) && (Nat.beq x.Ah.AA.AD.n x.Ah.AA.AD.n)) <|
 (.ret (false,x.Ah)))
 (.jump S_f2_12 (D_f2_12 D_f2_6) (X_f2_12.mk x.NH x.KB x.Cb x.FU x.FT x.Ah)))
 (.jump S_f2_12 (D_f2_12 D_f2_6) (X_f2_12.mk x.NH x.KB x.Cb x.FU x.FT x.Ah)))
 (.jump S_f2_12 (D_f2_12 D_f2_6) (X_f2_12.mk x.NH x.KB x.Cb x.FU x.FT x.Ah))))))
 (.need ((true && true) && (Nat.beq x.Ah.AA.AD.n x.Ah.AA.AD.n)) <|
 (.ret (true,x.Ah))))
theorem sd_f2_6 (D_f2_6 : AQ X_f2_6 RR_f2) (x : X_f2_6) : (tt_f2_6 D_f2_6 x).AH :=
 (TT.sI (TT.sN (TT.sN (TT.sI (TT.sN (TT.sI (TT.sI (TT.sN TT.sR) (TT.sI (TT.sI (TT.sI (TT.sN TT.sR) TT.sJ) TT.sJ) TT.sJ)) (TT.sI (TT.sI (TT.sI (TT.sN TT.sR) TT.sJ) TT.sJ) TT.sJ))) (TT.sI (TT.sI (TT.sI (TT.sN TT.sR) TT.sJ) TT.sJ) TT.sJ)))) (TT.sN TT.sR))
theorem roT_f2_6 (D_f2_6 : AQ X_f2_6 RR_f2) (r6 : ∀ x y,D_f2_6.rel x y → p_f2 y = w_f2_6 x) (x : X_f2_6) : TT.Ro p_f2 (w_f2_6 x) (tt_f2_6 D_f2_6 x) :=
 (TT.rI (TT.rN (TT.rN (TT.rI (TT.rN (TT.rI (TT.rI (TT.rN (TT.rR rfl)) (TT.rI (TT.rI (TT.rI (TT.rN (TT.rR rfl)) (TT.rJ (ro_f2_12 D_f2_6 r6 _))) (TT.rJ (ro_f2_12 D_f2_6 r6 _))) (TT.rJ (ro_f2_12 D_f2_6 r6 _)))) (TT.rI (TT.rI (TT.rI (TT.rN (TT.rR rfl)) (TT.rJ (ro_f2_12 D_f2_6 r6 _))) (TT.rJ (ro_f2_12 D_f2_6 r6 _))) (TT.rJ (ro_f2_12 D_f2_6 r6 _))))) (TT.rI (TT.rI (TT.rI (TT.rN (TT.rR rfl)) (TT.rJ (ro_f2_12 D_f2_6 r6 _))) (TT.rJ (ro_f2_12 D_f2_6 r6 _))) (TT.rJ (ro_f2_12 D_f2_6 r6 _)))))) (TT.rN (TT.rR rfl)))
def D_f2_6 : AQ X_f2_6 RR_f2:=AQ.loop tt_f2_6
theorem ok_f2_6 : AV J_f2 S_f2_6 D_f2_6 :=
 Az fun D_f2_6 h_6=>lk mxk (lbc h_6 rfl (lbc (ok_f2_12 D_f2_6 h_6) rfl lbn)) (sd_f2_6 D_f2_6)
theorem ro_f2_6 : ∀ x y,D_f2_6.rel x y → p_f2 y = w_f2_6 x :=
 Ju fun D_f2_6 r6=>roT_f2_6 D_f2_6 r6
def tt_f2_5 (x : X_f2_5) : TT Tryz.prog RR_f2 :=
 (.jump S_f2_6 D_f2_6 (X_f2_6.mk x.NH x.KB x.Cb ((x.Ah.AA.AD.n : Nat) : Int) 0 x.Ah))
theorem sd_f2_5 (x : X_f2_5) : (tt_f2_5 x).AH :=
 TT.sJ
theorem roT_f2_5 (x : X_f2_5) : TT.Ro p_f2 (w_f2_5 x) (tt_f2_5 x) :=
 (TT.rJ (ro_f2_6 _))
def D_f2_5 : AQ X_f2_5 RR_f2:=.of tt_f2_5
theorem ok_f2_5 : AV J_f2 S_f2_5 D_f2_5 :=
 lk mxk (lbc ok_f2_6 rfl lbn) sd_f2_5
theorem ro_f2_5 : ∀ x y,D_f2_5.rel x y → p_f2 y = w_f2_5 x :=
 roT_f2_5 
def tt_f2 (x : X_f2) : TT Tryz.prog RR_f2 :=
 (.ite (AX (Int.tmod x.fst.AO 2) 1)
 (.ite (Bd x.snd.AA.tail (IntKind.u64.wrap (Int.tdiv x.fst.AO 2)))
 (.ret (false,x.snd))
 (.jump S_f2_5 D_f2_5 (X_f2_5.mk x.fst (IntKind.u64.wrap (Int.tdiv x.fst.AO 2)) (AX (Int.tmod x.fst.AO 2) 1) x.snd)))
 (.jump S_f2_5 D_f2_5 (X_f2_5.mk x.fst (IntKind.u64.wrap (Int.tdiv x.fst.AO 2)) (AX (Int.tmod x.fst.AO 2) 1) x.snd)))
theorem sd_f2 (x : X_f2) : (tt_f2 x).AH :=
 (TT.sI (TT.sI TT.sR TT.sJ) TT.sJ)
theorem roT_f2 (x : X_f2) : TT.Ro p_f2 (w_f2 x) (tt_f2 x) :=
 (TT.rI (TT.rI (TT.rR rfl) (TT.rJ (ro_f2_5 _))) (TT.rJ (ro_f2_5 _)))
def D_f2 : AQ X_f2 R_f2:=.ro (.of tt_f2) (fun y=>(y.1)) (fun y x=>(y,x.2)) fun x y h=>congrArg (fun o=>(y.1,o)) (roT_f2 x y h)
def con_f2 : A3 Tryz.prog :=
 C3 162 J_f2 S_f2 (.of tt_f2) D_f2 (fun y x=>(y,x.2)) (fun y=>V.bool y) 2 1 [.any,.any] (lk mxk (lbc ok_f2_6 rfl (lbc ok_f2_5 rfl lbn)) sd_f2) (fun x=>⟨(nu_e_TRr : ∀ y,(e_TRr y).CV) (x.2),trivial⟩)
abbrev X_f20 : Type:=(Sl Int)
abbrev R_f20 : Type:=(Sl Int)
def J_f20 : A9 Tryz.prog :=
 BF Tryz.prog Tryz.f113 8 [(5,1),(6,1)] [] [] [.shut 2] [N0] [] [] R_f20 [] fun y=>[Kr y]
def S_f20 : AM :=
 Ae Tryz.f113 1 0 X_f20 (fun x=>[EU x]) fun l=>(FO (at_ l 0))
def tt_f20 (x : X_f20) : TT Tryz.prog R_f20 :=
 (.ite x.nil
 (.ret (Sl.mk true 0 (fun _i1=>(0 : Int))))
 (.need (true && (room ((0 : Nat) + x.n) 8)) <|
 (.ret (Sl.mk (cond (Nat.beq x.n 0) false false) ((0 : Nat) + x.n) (fun i1=>(cond (Nat.blt i1 0) (0 : Int) (x.get (i1 - 0))))))))
theorem sd_f20 (x : X_f20) : (tt_f20 x).AH :=
 (TT.sI TT.sR (TT.sN TT.sR))
def D_f20 : AQ X_f20 R_f20:=.of tt_f20
def con_f20 : A3 Tryz.prog :=
 BZ 113 J_f20 S_f20 D_f20 1 0 [Ep] (lk mxk lbn sd_f20)
abbrev X_fc : Type:=TRg × TRs
abbrev R_fc : Type:=(Bx TRr) × Int
def J_fc : A9 Tryz.prog :=
 BF Tryz.prog Tryz.f129 113 [(2,3),(3,3),(13,1),(21,1),(57,1),(112,1)] [(7,[.open_ 6]),(12,[.close (.loc 72 0)]),(14,[.close (.loc 72 0)]),(15,[.close (.loc 72 0)]),(16,[.close (.loc 72 0)]),(17,[.close (.loc 72 0)]),(18,[.close (.loc 72 0)]),(19,[.close (.loc 72 0)]),(20,[.close (.loc 72 0)])] [] [.close (.loc 72 0),.shut 4] [hbox_TRr,.any] [] [con_f2t,con_f2,con_f20,con_fy] R_fc [(9,[⟨.loc 72 0,.loc 6 1,[.CI 0 0,.CI 1 1],none,none⟩]),(13,[⟨.loc 72 0,.loc 6 1,[.CI 0 0,.CI 1 1],none,none⟩])] fun y=>[V.CC (V.cons (ebox_TRr y.1) (V.cons ((V.int .i64) y.2) (V.unit)))]
def S_fc : AM :=
 Ae Tryz.f129 2 0 X_fc (fun x=>[e_TRg x.1,e_TRs x.2]) fun l=>(d_TRg (at_ l 0),d_TRs (at_ l 1))
structure X_fc_7 where
 Ds : TRs
 l_8 : (Bx TSs)
 C9 : TRr
def S_fc_7 : AM :=
 Ad Tryz.f129 7 [(3,.any),(6,.any),(8,hbox_TSs)] [] [(.loc 6 1,sh_TRr)] X_fc_7 (fun x=>[(CR e_TRs) x.Ds,(V.ptr (.loc 6 1) []),ebox_TSs x.l_8,e_TRr x.C9]) fun l=>⟨(CS d_TRs) (at_ l 0),dbox_TSs (at_ l 2),d_TRr (at_ l 3)⟩
structure X_fc_9 where
 Ds : TRs
 QQ : Int
 MW : Int
 C9 : TRr
def S_fc_9 : AM :=
 Ad Tryz.f129 9 (an [3,6,72,73,74]) [] [(.loc 6 1,sh_TRr),(.loc 72 0,.any)] X_fc_9 (fun x=>[(CR e_TRs) x.Ds,(V.ptr (.loc 6 1) []),(V.own (.loc 72 0) [] 1 x.C9.AA.AD.n 0 x.C9.AA.AD.n),(V.int .i64) x.QQ,(V.int .i64) x.MW,V.cons (V.cons ((V.int .u64) x.C9.AA.tail) (V.cons (V.Bl (.loc 72 0) 41 1 x.C9.AA.AD.nil x.C9.AA.AD.n) (V.unit))) (V.cons (ebox_TSs x.C9.s) (V.cons ((V.int .u64) x.C9.most) (V.cons (V.bool x.C9.closed) (V.unit)))),(V.arr 1 x.C9.AA.AD.n fun i=>(V.int .u64) (x.C9.AA.AD.get i))]) fun l=>⟨(CS d_TRs) (at_ l 0),dI (at_ l 3),dI (at_ l 4),{ d_TRr (at_ l 5) with AA.AD:=⟨(S3 (fd (fd (at_ l 5) 0) 1)).nil,(S3 (fd (fd (at_ l 5) 0) 1)).n,(Pz dI (at_ l 6)).get⟩ }⟩
structure X_fc_13 where
 Ds : TRs
 QQ : Int
 MW : Int
 C9 : TRr
def S_fc_13 : AM :=
 Ad Tryz.f129 13 (an [3,6,72,73,74]) [] [(.loc 6 1,sh_TRr),(.loc 72 0,.any)] X_fc_13 (fun x=>[(CR e_TRs) x.Ds,(V.ptr (.loc 6 1) []),(V.own (.loc 72 0) [] 1 x.C9.AA.AD.n 0 x.C9.AA.AD.n),(V.int .i64) x.QQ,(V.int .i64) x.MW,V.cons (V.cons ((V.int .u64) x.C9.AA.tail) (V.cons (V.Bl (.loc 72 0) 41 1 x.C9.AA.AD.nil x.C9.AA.AD.n) (V.unit))) (V.cons (ebox_TSs x.C9.s) (V.cons ((V.int .u64) x.C9.most) (V.cons (V.bool x.C9.closed) (V.unit)))),(V.arr 1 x.C9.AA.AD.n fun i=>(V.int .u64) (x.C9.AA.AD.get i))]) fun l=>⟨(CS d_TRs) (at_ l 0),dI (at_ l 3),dI (at_ l 4),{ d_TRr (at_ l 5) with AA.AD:=⟨(S3 (fd (fd (at_ l 5) 0) 1)).nil,(S3 (fd (fd (at_ l 5) 0) 1)).n,(Pz dI (at_ l 6)).get⟩ }⟩
structure X_fc_14 where
 Ds : TRs
 C9 : TRr
def S_fc_14 : AM :=
 Ad Tryz.f129 14 (an [3,6]) [] [(.loc 6 1,sh_TRr)] X_fc_14 (fun x=>[(CR e_TRs) x.Ds,(V.ptr (.loc 6 1) []),e_TRr x.C9]) fun l=>⟨(CS d_TRs) (at_ l 0),d_TRr (at_ l 2)⟩
structure X_fc_15 where
 Pj : (Sl TSo)
 Rp : Int
 Ng : Int
 C9 : TRr
def S_fc_15 : AM :=
 Ad Tryz.f129 15 [(6,.any),(101,hsl_TSo),(102,.any),(103,.any)] [] [(.loc 6 1,sh_TRr)] X_fc_15 (fun x=>[(V.ptr (.loc 6 1) []),esl_TSo x.Pj,(V.int .i64) x.Rp,(V.int .i64) x.Ng,e_TRr x.C9]) fun l=>⟨dsl_TSo (at_ l 1),dI (at_ l 2),dI (at_ l 3),d_TRr (at_ l 4)⟩
def tt_fc_15 (D_fc_15 : AQ X_fc_15 R_fc) (x : X_fc_15) : TT Tryz.prog R_fc :=
 (.ite (BS x.Ng x.Rp)
 (.need (A0 x.Ng x.Pj.n) <|
 (.call con_f2 ((x.Pj.get (Int.toNat x.Ng)),x.C9) fun (y2 : R_f2) =>
 (.ite (!y2)
 (.ret ((Bx.mk true (TRr.mk (TRc.mk 0 (Sl.mk true 0 (fun _i3=>(0 : Int)))) (Bx.mk true (TSs.mk (Sl.mk true 0 (fun _i3=>(TSo.mk 0 0 0))) 0)) 0 false)),3))
 (.jump S_fc_15 D_fc_15 (X_fc_15.mk x.Pj x.Rp (IntKind.i64.wrap (x.Ng + 1)) x.C9)))))
 (.ret ((Bx.mk false x.C9),0)))
theorem sd_fc_15 (D_fc_15 : AQ X_fc_15 R_fc) (x : X_fc_15) : (tt_fc_15 D_fc_15 x).AH :=
 (TT.sI (TT.sN (TT.sC fun _=>(TT.sI TT.sR TT.sJ))) TT.sR)
def D_fc_15 : AQ X_fc_15 R_fc:=AQ.loop tt_fc_15
theorem ok_fc_15 : AV J_fc S_fc_15 D_fc_15 :=
 Az fun D_fc_15 h_15=>lk mxk (lbc h_15 rfl lbn) (sd_fc_15 D_fc_15)
def tt_fc_14 (x : X_fc_14) : TT Tryz.prog R_fc :=
 (.jump S_fc_15 D_fc_15 (X_fc_15.mk x.Ds.Ao ((x.Ds.Ao.n : Nat) : Int) 0 x.C9))
theorem sd_fc_14 (x : X_fc_14) : (tt_fc_14 x).AH :=
 TT.sJ
def D_fc_14 : AQ X_fc_14 R_fc:=.of tt_fc_14
theorem ok_fc_14 : AV J_fc S_fc_14 D_fc_14 :=
 lk mxk (lbc ok_fc_15 rfl lbn) sd_fc_14
def tt_fc_13 (D_fc_9 : AQ X_fc_9 R_fc) (x : X_fc_13) : TT Tryz.prog R_fc :=
 (.jump S_fc_9 D_fc_9 (X_fc_9.mk x.Ds x.QQ (IntKind.i64.wrap (x.MW + 1)) x.C9))
theorem sd_fc_13 (D_fc_9 : AQ X_fc_9 R_fc) (x : X_fc_13) : (tt_fc_13 D_fc_9 x).AH :=
 TT.sJ
def D_fc_13 (D_fc_9 : AQ X_fc_9 R_fc) : AQ X_fc_13 R_fc:=.of (tt_fc_13 D_fc_9)
theorem ok_fc_13 (D_fc_9 : AQ X_fc_9 R_fc) (h_9 : AV J_fc S_fc_9 D_fc_9) : AV J_fc S_fc_13 (D_fc_13 D_fc_9) :=
 lk mxk (lbc h_9 rfl (lbc ok_fc_15 rfl (lbc ok_fc_14 rfl lbn))) (sd_fc_13 D_fc_9)
def tt_fc_9 (D_fc_9 : AQ X_fc_9 R_fc) (x : X_fc_9) : TT Tryz.prog R_fc :=
 (.ite (BS x.MW x.QQ)
 (.need (A0 x.MW x.C9.AA.AD.n) <|
 (.need ((Nat.beq x.C9.AA.AD.n x.C9.AA.AD.n) && true) <|
 (.ite (BS x.C9.AA.tail (x.C9.AA.AD.get ((0 : Nat) + (Int.toNat x.MW))))
 (.need ((true && true) && (Nat.beq x.C9.AA.AD.n x.C9.AA.AD.n)) <|
 (.ret ((Bx.mk true (TRr.mk (TRc.mk 0 (Sl.mk true 0 (fun _i2=>(0 : Int)))) (Bx.mk true (TSs.mk (Sl.mk true 0 (fun _i2=>(TSo.mk 0 0 0))) 0)) 0 false)),3)))
 (.ite (BS x.C9.most (IntKind.u64.wrap (x.C9.AA.tail - (x.C9.AA.AD.get ((0 : Nat) + (Int.toNat x.MW))))))
 (.need ((true && true) && (Nat.beq x.C9.AA.AD.n x.C9.AA.AD.n)) <|
 (.ret ((Bx.mk true (TRr.mk (TRc.mk 0 (Sl.mk true 0 (fun _i2=>(0 : Int)))) (Bx.mk true (TSs.mk (Sl.mk true 0 (fun _i2=>(TSo.mk 0 0 0))) 0)) 0 false)),3)))
 (.jump S_fc_13 (D_fc_13 D_fc_9) (X_fc_13.mk x.Ds x.QQ x.MW x.C9))))))
 (.need ((true && true) && (Nat.beq x.C9.AA.AD.n x.C9.AA.AD.n)) <|
 (.jump S_fc_14 D_fc_14 (X_fc_14.mk x.Ds x.C9))))
theorem sd_fc_9 (D_fc_9 : AQ X_fc_9 R_fc) (x : X_fc_9) : (tt_fc_9 D_fc_9 x).AH :=
 (TT.sI (TT.sN (TT.sN (TT.sI (TT.sN TT.sR) (TT.sI (TT.sN TT.sR) TT.sJ)))) (TT.sN TT.sJ))
def D_fc_9 : AQ X_fc_9 R_fc:=AQ.loop tt_fc_9
theorem ok_fc_9 : AV J_fc S_fc_9 D_fc_9 :=
 Az fun D_fc_9 h_9=>lk mxk (lbc h_9 rfl (lbc ok_fc_15 rfl (lbc ok_fc_14 rfl (lbc (ok_fc_13 D_fc_9 h_9) rfl lbn)))) (sd_fc_9 D_fc_9)
def tt_fc_7 (x : X_fc_7) : TT Tryz.prog R_fc :=
 (.call con_f20 x.Ds.AY fun (y1 : R_f20) =>
 (.jump S_fc_9 D_fc_9 (X_fc_9.mk x.Ds ((y1.n : Nat) : Int) 0 (TRr.mk (TRc.mk x.Ds.Aq y1) x.l_8 x.C9.most x.Ds.Aw))))
theorem sd_fc_7 (x : X_fc_7) : (tt_fc_7 x).AH :=
 (TT.sC fun _=>TT.sJ)
def D_fc_7 : AQ X_fc_7 R_fc:=.of tt_fc_7
theorem ok_fc_7 : AV J_fc S_fc_7 D_fc_7 :=
 lk mxk (lbc ok_fc_15 rfl (lbc ok_fc_14 rfl (lbc ok_fc_9 rfl lbn))) sd_fc_7
def tt_fc (x : X_fc) : TT Tryz.prog R_fc :=
 (.call con_f2t x.fst fun (y1 : R_f2t) =>
 (.ite (!(AX y1.snd 0))
 (.ret ((Bx.mk true (TRr.mk (TRc.mk 0 (Sl.mk true 0 (fun _i2=>(0 : Int)))) (Bx.mk true (TSs.mk (Sl.mk true 0 (fun _i2=>(TSo.mk 0 0 0))) 0)) 0 false)),y1.snd))
 (.call con_fy (x.fst.Cn,(x.fst.AU,x.snd.Ao)) fun (y2 : R_fy) =>
 (.ite (!(AX y2.snd 0))
 (.ret ((Bx.mk true (TRr.mk (TRc.mk 0 (Sl.mk true 0 (fun _i3=>(0 : Int)))) (Bx.mk true (TSs.mk (Sl.mk true 0 (fun _i3=>(TSo.mk 0 0 0))) 0)) 0 false)),3))
 (.ite (!(AX ((x.snd.AY.n : Nat) : Int) x.fst.AU))
 (.ret ((Bx.mk true (TRr.mk (TRc.mk 0 (Sl.mk true 0 (fun _i3=>(0 : Int)))) (Bx.mk true (TSs.mk (Sl.mk true 0 (fun _i3=>(TSo.mk 0 0 0))) 0)) 0 false)),3))
 (.ite (Bd 4611686018427387904 x.snd.Aq)
 (.ret ((Bx.mk true (TRr.mk (TRc.mk 0 (Sl.mk true 0 (fun _i3=>(0 : Int)))) (Bx.mk true (TSs.mk (Sl.mk true 0 (fun _i3=>(TSo.mk 0 0 0))) 0)) 0 false)),3))
 (.need (!y1.fst.nil) <|
 (.jump S_fc_7 D_fc_7 (X_fc_7.mk x.snd y2.fst y1.fst.x)))))))))
theorem sd_fc (x : X_fc) : (tt_fc x).AH :=
 (TT.sC fun _=>(TT.sI TT.sR (TT.sC fun _=>(TT.sI TT.sR (TT.sI TT.sR (TT.sI TT.sR (TT.sN TT.sJ)))))))
def D_fc : AQ X_fc R_fc:=.of tt_fc
def con_fc : A3 Tryz.prog :=
 BZ 129 J_fc S_fc D_fc 2 0 [.any,sh_TRs] (lk mxk (lbc ok_fc_15 rfl (lbc ok_fc_14 rfl (lbc ok_fc_9 rfl (lbc ok_fc_7 rfl lbn)))) sd_fc)
abbrev X_f2d : Type:=Int × TFa
abbrev R_f2d : Type:=TFa
def J_f2d : A9 Tryz.prog :=
 BF Tryz.prog Tryz.f99 56 [(9,1),(34,1),(54,1)] [(1,[.close (.loc 16 0),.close (.loc 13 0)]),(2,[.close (.loc 16 0),.close (.loc 13 0)]),(3,[.close (.loc 28 0),.close (.loc 25 0),.close (.loc 16 0),.close (.loc 13 0)]),(4,[.close (.loc 28 0),.close (.loc 25 0),.close (.loc 16 0),.close (.loc 13 0)]),(5,[.close (.loc 28 0),.close (.loc 25 0),.close (.loc 16 0),.close (.loc 13 0)]),(6,[.close (.loc 28 0),.close (.loc 25 0),.close (.loc 16 0),.close (.loc 13 0)])] [] [.close (.loc 52 0),.close (.loc 28 0),.close (.loc 25 0),.close (.loc 16 0),.close (.loc 13 0)] [] [sh_TFa] [con_fc,con_f30,con_f1u] R_f2d [] fun y=>[V.CC (V.unit),e_TFa y]
def S_f2d : AM :=
 Ae Tryz.f99 2 1 X_f2d (fun x=>[(V.ptr (.par 0) []),(V.int .i64) x.1,e_TFa x.2]) fun l=>(dI (at_ l 1),d_TFa (at_ l 2))
def tt_f2d (x : X_f2d) : TT Tryz.prog R_f2d :=
 (.need (A0 x.fst x.snd.rings.n) <|
 (.need (((Nat.beq x.snd.rings.n x.snd.rings.n) && true) && (!(x.snd.rings.get ((0 : Nat) + (Int.toNat x.fst))).nil)) <|
 (.call con_f30 (x.snd.rings.get ((0 : Nat) + (Int.toNat x.fst))).x fun (y1 : R_f30) =>
 (.need ((true && true) && ((Nat.beq x.snd.rings.n x.snd.rings.n) && (Nat.blt ((0 : Nat) + (Int.toNat x.fst)) x.snd.rings.n))) <|
 (.side ((fun v : Nat → V=>v = v) (fun i2=>(cond (Nat.beq i2 ((0 : Nat) + (Int.toNat x.fst))) (V.ptr (Id.loc 16 0) List.nil) (V.Ai (x.snd.rings.get i2).nil (V.cons (V.cons (V.int IntKind.u64 (x.snd.rings.get i2).x.AA.tail) (V.cons (V.A4 41 1 (x.snd.rings.get i2).x.AA.AD.nil (x.snd.rings.get i2).x.AA.AD.n (fun i3=>(V.int IntKind.u64 ((x.snd.rings.get i2).x.AA.AD.get i3)))) V.unit)) (V.cons (V.Ai (x.snd.rings.get i2).x.s.nil (V.cons (V.A4 206 3 (x.snd.rings.get i2).x.s.x.l.nil (x.snd.rings.get i2).x.s.x.l.n (fun i3=>(V.cons (V.int IntKind.u64 ((x.snd.rings.get i2).x.s.x.l.get i3).AO) (V.cons (V.int IntKind.u64 ((x.snd.rings.get i2).x.s.x.l.get i3).Value) (V.cons (V.int IntKind.i64 ((x.snd.rings.get i2).x.s.x.l.get i3).Left) V.unit))))) (V.cons (V.int IntKind.i64 (x.snd.rings.get i2).x.s.x.AW) V.unit))) (V.cons (V.int IntKind.u64 (x.snd.rings.get i2).x.most) (V.cons (V.bool (x.snd.rings.get i2).x.closed) V.unit)))))))) <|
 (.need ((true && true) && (Nat.beq x.snd.rings.n x.snd.rings.n)) <|
 (.ite (!(AX y1.snd.fst 10))
 (.ret (TFa.mk x.snd.p x.snd.threads (Sl.mk x.snd.rings.nil x.snd.rings.n (fun i2=>(Bx.mk (cond (Nat.beq i2 ((0 : Nat) + (Int.toNat x.fst))) false (x.snd.rings.get i2).nil) (TRr.mk (TRc.mk (cond (Nat.beq i2 ((0 : Nat) + (Int.toNat x.fst))) y1.snd.snd.AA.tail (x.snd.rings.get i2).x.AA.tail) (Sl.mk (cond (Nat.beq i2 ((0 : Nat) + (Int.toNat x.fst))) y1.snd.snd.AA.AD.nil (x.snd.rings.get i2).x.AA.AD.nil) (cond (Nat.beq i2 ((0 : Nat) + (Int.toNat x.fst))) y1.snd.snd.AA.AD.n (x.snd.rings.get i2).x.AA.AD.n) (fun i3=>(cond (Nat.beq i2 ((0 : Nat) + (Int.toNat x.fst))) (y1.snd.snd.AA.AD.get i3) ((x.snd.rings.get i2).x.AA.AD.get i3))))) (Bx.mk (cond (Nat.beq i2 ((0 : Nat) + (Int.toNat x.fst))) y1.snd.snd.s.nil (x.snd.rings.get i2).x.s.nil) (TSs.mk (Sl.mk (cond (Nat.beq i2 ((0 : Nat) + (Int.toNat x.fst))) y1.snd.snd.s.x.l.nil (x.snd.rings.get i2).x.s.x.l.nil) (cond (Nat.beq i2 ((0 : Nat) + (Int.toNat x.fst))) y1.snd.snd.s.x.l.n (x.snd.rings.get i2).x.s.x.l.n) (fun i3=>(TSo.mk (cond (Nat.beq i2 ((0 : Nat) + (Int.toNat x.fst))) (y1.snd.snd.s.x.l.get i3).AO ((x.snd.rings.get i2).x.s.x.l.get i3).AO) (cond (Nat.beq i2 ((0 : Nat) + (Int.toNat x.fst))) (y1.snd.snd.s.x.l.get i3).Value ((x.snd.rings.get i2).x.s.x.l.get i3).Value) (cond (Nat.beq i2 ((0 : Nat) + (Int.toNat x.fst))) (y1.snd.snd.s.x.l.get i3).Left ((x.snd.rings.get i2).x.s.x.l.get i3).Left)))) (cond (Nat.beq i2 ((0 : Nat) + (Int.toNat x.fst))) y1.snd.snd.s.x.AW (x.snd.rings.get i2).x.s.x.AW))) (cond (Nat.beq i2 ((0 : Nat) + (Int.toNat x.fst))) y1.snd.snd.most (x.snd.rings.get i2).x.most) (cond (Nat.beq i2 ((0 : Nat) + (Int.toNat x.fst))) y1.snd.snd.closed (x.snd.rings.get i2).x.closed))))) x.snd.now x.snd.reads x.snd.ended))
 (.need (A0 x.fst x.snd.rings.n) <|
 (.need (((Nat.beq x.snd.rings.n x.snd.rings.n) && true) && (!(cond (Nat.beq ((0 : Nat) + (Int.toNat x.fst)) ((0 : Nat) + (Int.toNat x.fst))) false (x.snd.rings.get ((0 : Nat) + (Int.toNat x.fst))).nil))) <|
 (.call con_f1u (TRr.mk (TRc.mk (cond (Nat.beq ((0 : Nat) + (Int.toNat x.fst)) ((0 : Nat) + (Int.toNat x.fst))) y1.snd.snd.AA.tail (x.snd.rings.get ((0 : Nat) + (Int.toNat x.fst))).x.AA.tail) (Sl.mk (cond (Nat.beq ((0 : Nat) + (Int.toNat x.fst)) ((0 : Nat) + (Int.toNat x.fst))) y1.snd.snd.AA.AD.nil (x.snd.rings.get ((0 : Nat) + (Int.toNat x.fst))).x.AA.AD.nil) (cond (Nat.beq ((0 : Nat) + (Int.toNat x.fst)) ((0 : Nat) + (Int.toNat x.fst))) y1.snd.snd.AA.AD.n (x.snd.rings.get ((0 : Nat) + (Int.toNat x.fst))).x.AA.AD.n) (fun i2=>(cond (Nat.beq ((0 : Nat) + (Int.toNat x.fst)) ((0 : Nat) + (Int.toNat x.fst))) (y1.snd.snd.AA.AD.get i2) ((x.snd.rings.get ((0 : Nat) + (Int.toNat x.fst))).x.AA.AD.get i2))))) (Bx.mk (cond (Nat.beq ((0 : Nat) + (Int.toNat x.fst)) ((0 : Nat) + (Int.toNat x.fst))) y1.snd.snd.s.nil (x.snd.rings.get ((0 : Nat) + (Int.toNat x.fst))).x.s.nil) (TSs.mk (Sl.mk (cond (Nat.beq ((0 : Nat) + (Int.toNat x.fst)) ((0 : Nat) + (Int.toNat x.fst))) y1.snd.snd.s.x.l.nil (x.snd.rings.get ((0 : Nat) + (Int.toNat x.fst))).x.s.x.l.nil) (cond (Nat.beq ((0 : Nat) + (Int.toNat x.fst)) ((0 : Nat) + (Int.toNat x.fst))) y1.snd.snd.s.x.l.n (x.snd.rings.get ((0 : Nat) + (Int.toNat x.fst))).x.s.x.l.n) (fun i2=>(TSo.mk (cond (Nat.beq ((0 : Nat) + (Int.toNat x.fst)) ((0 : Nat) + (Int.toNat x.fst))) (y1.snd.snd.s.x.l.get i2).AO ((x.snd.rings.get ((0 : Nat) + (Int.toNat x.fst))).x.s.x.l.get i2).AO) (cond (Nat.beq ((0 : Nat) + (Int.toNat x.fst)) ((0 : Nat) + (Int.toNat x.fst))) (y1.snd.snd.s.x.l.get i2).Value ((x.snd.rings.get ((0 : Nat) + (Int.toNat x.fst))).x.s.x.l.get i2).Value) (cond (Nat.beq ((0 : Nat) + (Int.toNat x.fst)) ((0 : Nat) + (Int.toNat x.fst))) (y1.snd.snd.s.x.l.get i2).Left ((x.snd.rings.get ((0 : Nat) + (Int.toNat x.fst))).x.s.x.l.get i2).Left)))) (cond (Nat.beq ((0 : Nat) + (Int.toNat x.fst)) ((0 : Nat) + (Int.toNat x.fst))) y1.snd.snd.s.x.AW (x.snd.rings.get ((0 : Nat) + (Int.toNat x.fst))).x.s.x.AW))) (cond (Nat.beq ((0 : Nat) + (Int.toNat x.fst)) ((0 : Nat) + (Int.toNat x.fst))) y1.snd.snd.most (x.snd.rings.get ((0 : Nat) + (Int.toNat x.fst))).x.most) (cond (Nat.beq ((0 : Nat) + (Int.toNat x.fst)) ((0 : Nat) + (Int.toNat x.fst))) y1.snd.snd.closed (x.snd.rings.get ((0 : Nat) + (Int.toNat x.fst))).x.closed)) fun (y2 : R_f1u) =>
 (.need ((true && true) && ((Nat.beq x.snd.rings.n x.snd.rings.n) && (Nat.blt ((0 : Nat) + (Int.toNat x.fst)) x.snd.rings.n))) <|
 (.side ((fun v : Nat → V=>v = v) (fun i3=>(cond (Nat.beq i3 ((0 : Nat) + (Int.toNat x.fst))) (V.ptr (Id.loc 28 0) List.nil) (V.Ai (cond (Nat.beq i3 ((0 : Nat) + (Int.toNat x.fst))) false (x.snd.rings.get i3).nil) (V.cons (V.cons (V.int IntKind.u64 (cond (Nat.beq i3 ((0 : Nat) + (Int.toNat x.fst))) y1.snd.snd.AA.tail (x.snd.rings.get i3).x.AA.tail)) (V.cons (V.A4 41 1 (cond (Nat.beq i3 ((0 : Nat) + (Int.toNat x.fst))) y1.snd.snd.AA.AD.nil (x.snd.rings.get i3).x.AA.AD.nil) (cond (Nat.beq i3 ((0 : Nat) + (Int.toNat x.fst))) y1.snd.snd.AA.AD.n (x.snd.rings.get i3).x.AA.AD.n) (fun i4=>(V.int IntKind.u64 (cond (Nat.beq i3 ((0 : Nat) + (Int.toNat x.fst))) (y1.snd.snd.AA.AD.get i4) ((x.snd.rings.get i3).x.AA.AD.get i4))))) V.unit)) (V.cons (V.Ai (cond (Nat.beq i3 ((0 : Nat) + (Int.toNat x.fst))) y1.snd.snd.s.nil (x.snd.rings.get i3).x.s.nil) (V.cons (V.A4 206 3 (cond (Nat.beq i3 ((0 : Nat) + (Int.toNat x.fst))) y1.snd.snd.s.x.l.nil (x.snd.rings.get i3).x.s.x.l.nil) (cond (Nat.beq i3 ((0 : Nat) + (Int.toNat x.fst))) y1.snd.snd.s.x.l.n (x.snd.rings.get i3).x.s.x.l.n) (fun i4=>(V.cons (V.int IntKind.u64 (cond (Nat.beq i3 ((0 : Nat) + (Int.toNat x.fst))) (y1.snd.snd.s.x.l.get i4).AO ((x.snd.rings.get i3).x.s.x.l.get i4).AO)) (V.cons (V.int IntKind.u64 (cond (Nat.beq i3 ((0 : Nat) + (Int.toNat x.fst))) (y1.snd.snd.s.x.l.get i4).Value ((x.snd.rings.get i3).x.s.x.l.get i4).Value)) (V.cons (V.int IntKind.i64 (cond (Nat.beq i3 ((0 : Nat) + (Int.toNat x.fst))) (y1.snd.snd.s.x.l.get i4).Left ((x.snd.rings.get i3).x.s.x.l.get i4).Left)) V.unit))))) (V.cons (V.int IntKind.i64 (cond (Nat.beq i3 ((0 : Nat) + (Int.toNat x.fst))) y1.snd.snd.s.x.AW (x.snd.rings.get i3).x.s.x.AW)) V.unit))) (V.cons (V.int IntKind.u64 (cond (Nat.beq i3 ((0 : Nat) + (Int.toNat x.fst))) y1.snd.snd.most (x.snd.rings.get i3).x.most)) (V.cons (V.bool (cond (Nat.beq i3 ((0 : Nat) + (Int.toNat x.fst))) y1.snd.snd.closed (x.snd.rings.get i3).x.closed)) V.unit)))))))) <|
 (.need ((true && true) && (Nat.beq x.snd.rings.n x.snd.rings.n)) <|
 (.need (A0 x.fst x.snd.p.AJ.n) <|
 (.call con_fc ((x.snd.p.AJ.get (Int.toNat x.fst)),(TRs.mk (IntKind.u64.wrap (y2.Aq + 1)) y2.AY y2.Aw y2.Ao)) fun (y3 : R_fc) =>
 (.ite (AX y3.snd 0)
 (.need (A0 x.fst x.snd.rings.n) <|
 (.need ((Nat.beq x.snd.rings.n x.snd.rings.n) && true) <|
 (.need ((true && true) && (Nat.beq x.snd.rings.n x.snd.rings.n)) <|
 (.ret (TFa.mk x.snd.p x.snd.threads (Sl.mk x.snd.rings.nil x.snd.rings.n (fun i4=>(Bx.mk (cond (Nat.beq i4 ((0 : Nat) + (Int.toNat x.fst))) y3.fst.nil (cond (Nat.beq i4 ((0 : Nat) + (Int.toNat x.fst))) false (cond (Nat.beq i4 ((0 : Nat) + (Int.toNat x.fst))) false (x.snd.rings.get i4).nil))) (TRr.mk (TRc.mk (cond (Nat.beq i4 ((0 : Nat) + (Int.toNat x.fst))) y3.fst.x.AA.tail (cond (Nat.beq i4 ((0 : Nat) + (Int.toNat x.fst))) (cond (Nat.beq ((0 : Nat) + (Int.toNat x.fst)) ((0 : Nat) + (Int.toNat x.fst))) y1.snd.snd.AA.tail (x.snd.rings.get ((0 : Nat) + (Int.toNat x.fst))).x.AA.tail) (cond (Nat.beq i4 ((0 : Nat) + (Int.toNat x.fst))) y1.snd.snd.AA.tail (x.snd.rings.get i4).x.AA.tail))) (Sl.mk (cond (Nat.beq i4 ((0 : Nat) + (Int.toNat x.fst))) y3.fst.x.AA.AD.nil (cond (Nat.beq i4 ((0 : Nat) + (Int.toNat x.fst))) (cond (Nat.beq ((0 : Nat) + (Int.toNat x.fst)) ((0 : Nat) + (Int.toNat x.fst))) y1.snd.snd.AA.AD.nil (x.snd.rings.get ((0 : Nat) + (Int.toNat x.fst))).x.AA.AD.nil) (cond (Nat.beq i4 ((0 : Nat) + (Int.toNat x.fst))) y1.snd.snd.AA.AD.nil (x.snd.rings.get i4).x.AA.AD.nil))) (cond (Nat.beq i4 ((0 : Nat) + (Int.toNat x.fst))) y3.fst.x.AA.AD.n (cond (Nat.beq i4 ((0 : Nat) + (Int.toNat x.fst))) (cond (Nat.beq ((0 : Nat) + (Int.toNat x.fst)) ((0 : Nat) + (Int.toNat x.fst))) y1.snd.snd.AA.AD.n (x.snd.rings.get ((0 : Nat) + (Int.toNat x.fst))).x.AA.AD.n) (cond (Nat.beq i4 ((0 : Nat) + (Int.toNat x.fst))) y1.snd.snd.AA.AD.n (x.snd.rings.get i4).x.AA.AD.n))) (fun i5=>(cond (Nat.beq i4 ((0 : Nat) + (Int.toNat x.fst))) (y3.fst.x.AA.AD.get i5) (cond (Nat.beq i4 ((0 : Nat) + (Int.toNat x.fst))) (cond (Nat.beq ((0 : Nat) + (Int.toNat x.fst)) ((0 : Nat) + (Int.toNat x.fst))) (y1.snd.snd.AA.AD.get i5) ((x.snd.rings.get ((0 : Nat) + (Int.toNat x.fst))).x.AA.AD.get i5)) (cond (Nat.beq i4 ((0 : Nat) + (Int.toNat x.fst))) (y1.snd.snd.AA.AD.get i5) ((x.snd.rings.get i4).x.AA.AD.get i5))))))) (Bx.mk (cond (Nat.beq i4 ((0 : Nat) + (Int.toNat x.fst))) y3.fst.x.s.nil (cond (Nat.beq i4 ((0 : Nat) + (Int.toNat x.fst))) (cond (Nat.beq ((0 : Nat) + (Int.toNat x.fst)) ((0 : Nat) + (Int.toNat x.fst))) y1.snd.snd.s.nil (x.snd.rings.get ((0 : Nat) + (Int.toNat x.fst))).x.s.nil) (cond (Nat.beq i4 ((0 : Nat) + (Int.toNat x.fst))) y1.snd.snd.s.nil (x.snd.rings.get i4).x.s.nil))) (TSs.mk (Sl.mk (cond (Nat.beq i4 ((0 : Nat) + (Int.toNat x.fst))) y3.fst.x.s.x.l.nil (cond (Nat.beq i4 ((0 : Nat) + (Int.toNat x.fst))) (cond (Nat.beq ((0 : Nat) + (Int.toNat x.fst)) ((0 : Nat) + (Int.toNat x.fst))) y1.snd.snd.s.x.l.nil (x.snd.rings.get ((0 : Nat) + (Int.toNat x.fst))).x.s.x.l.nil) (cond (Nat.beq i4 ((0 : Nat) + (Int.toNat x.fst))) y1.snd.snd.s.x.l.nil (x.snd.rings.get i4).x.s.x.l.nil))) (cond (Nat.beq i4 ((0 : Nat) + (Int.toNat x.fst))) y3.fst.x.s.x.l.n (cond (Nat.beq i4 ((0 : Nat) + (Int.toNat x.fst))) (cond (Nat.beq ((0 : Nat) + (Int.toNat x.fst)) ((0 : Nat) + (Int.toNat x.fst))) y1.snd.snd.s.x.l.n (x.snd.rings.get ((0 : Nat) + (Int.toNat x.fst))).x.s.x.l.n) (cond (Nat.beq i4 ((0 : Nat) + (Int.toNat x.fst))) y1.snd.snd.s.x.l.n (x.snd.rings.get i4).x.s.x.l.n))) (fun i5=>(TSo.mk (cond (Nat.beq i4 ((0 : Nat) + (Int.toNat x.fst))) (y3.fst.x.s.x.l.get i5).AO (cond (Nat.beq i4 ((0 : Nat) + (Int.toNat x.fst))) (cond (Nat.beq ((0 : Nat) + (Int.toNat x.fst)) ((0 : Nat) + (Int.toNat x.fst))) (y1.snd.snd.s.x.l.get i5).AO ((x.snd.rings.get ((0 : Nat) + (Int.toNat x.fst))).x.s.x.l.get i5).AO) (cond (Nat.beq i4 ((0 : Nat) + (Int.toNat x.fst))) (y1.snd.snd.s.x.l.get i5).AO ((x.snd.rings.get i4).x.s.x.l.get i5).AO))) (cond (Nat.beq i4 ((0 : Nat) + (Int.toNat x.fst))) (y3.fst.x.s.x.l.get i5).Value (cond (Nat.beq i4 ((0 : Nat) + (Int.toNat x.fst))) (cond (Nat.beq ((0 : Nat) + (Int.toNat x.fst)) ((0 : Nat) + (Int.toNat x.fst))) (y1.snd.snd.s.x.l.get i5).Value ((x.snd.rings.get ((0 : Nat) + (Int.toNat x.fst))).x.s.x.l.get i5).Value) (cond (Nat.beq i4 ((0 : Nat) + (Int.toNat x.fst))) (y1.snd.snd.s.x.l.get i5).Value ((x.snd.rings.get i4).x.s.x.l.get i5).Value))) (cond (Nat.beq i4 ((0 : Nat) + (Int.toNat x.fst))) (y3.fst.x.s.x.l.get i5).Left (cond (Nat.beq i4 ((0 : Nat) + (Int.toNat x.fst))) (cond (Nat.beq ((0 : Nat) + (Int.toNat x.fst)) ((0 : Nat) + (Int.toNat x.fst))) (y1.snd.snd.s.x.l.get i5).Left ((x.snd.rings.get ((0 : Nat) + (Int.toNat x.fst))).x.s.x.l.get i5).Left) (cond (Nat.beq i4 ((0 : Nat) + (Int.toNat x.fst))) (y1.snd.snd.s.x.l.get i5).Left ((x.snd.rings.get i4).x.s.x.l.get i5).Left)))))) (cond (Nat.beq i4 ((0 : Nat) + (Int.toNat x.fst))) y3.fst.x.s.x.AW (cond (Nat.beq i4 ((0 : Nat) + (Int.toNat x.fst))) (cond (Nat.beq ((0 : Nat) + (Int.toNat x.fst)) ((0 : Nat) + (Int.toNat x.fst))) y1.snd.snd.s.x.AW (x.snd.rings.get ((0 : Nat) + (Int.toNat x.fst))).x.s.x.AW) (cond (Nat.beq i4 ((0 : Nat) + (Int.toNat x.fst))) y1.snd.snd.s.x.AW (x.snd.rings.get i4).x.s.x.AW))))) (cond (Nat.beq i4 ((0 : Nat) + (Int.toNat x.fst))) y3.fst.x.most (cond (Nat.beq i4 ((0 : Nat) + (Int.toNat x.fst))) (cond (Nat.beq ((0 : Nat) + (Int.toNat x.fst)) ((0 : Nat) + (Int.toNat x.fst))) y1.snd.snd.most (x.snd.rings.get ((0 : Nat) + (Int.toNat x.fst))).x.most) (cond (Nat.beq i4 ((0 : Nat) + (Int.toNat x.fst))) y1.snd.snd.most (x.snd.rings.get i4).x.most))) (cond (Nat.beq i4 ((0 : Nat) + (Int.toNat x.fst))) y3.fst.x.closed (cond (Nat.beq i4 ((0 : Nat) + (Int.toNat x.fst))) (cond (Nat.beq ((0 : Nat) + (Int.toNat x.fst)) ((0 : Nat) + (Int.toNat x.fst))) y1.snd.snd.closed (x.snd.rings.get ((0 : Nat) + (Int.toNat x.fst))).x.closed) (cond (Nat.beq i4 ((0 : Nat) + (Int.toNat x.fst))) y1.snd.snd.closed (x.snd.rings.get i4).x.closed))))))) x.snd.now x.snd.reads x.snd.ended)))))
 (.ret (TFa.mk x.snd.p x.snd.threads (Sl.mk x.snd.rings.nil x.snd.rings.n (fun i4=>(Bx.mk (cond (Nat.beq i4 ((0 : Nat) + (Int.toNat x.fst))) false (cond (Nat.beq i4 ((0 : Nat) + (Int.toNat x.fst))) false (x.snd.rings.get i4).nil)) (TRr.mk (TRc.mk (cond (Nat.beq i4 ((0 : Nat) + (Int.toNat x.fst))) (cond (Nat.beq ((0 : Nat) + (Int.toNat x.fst)) ((0 : Nat) + (Int.toNat x.fst))) y1.snd.snd.AA.tail (x.snd.rings.get ((0 : Nat) + (Int.toNat x.fst))).x.AA.tail) (cond (Nat.beq i4 ((0 : Nat) + (Int.toNat x.fst))) y1.snd.snd.AA.tail (x.snd.rings.get i4).x.AA.tail)) (Sl.mk (cond (Nat.beq i4 ((0 : Nat) + (Int.toNat x.fst))) (cond (Nat.beq ((0 : Nat) + (Int.toNat x.fst)) ((0 : Nat) + (Int.toNat x.fst))) y1.snd.snd.AA.AD.nil (x.snd.rings.get ((0 : Nat) + (Int.toNat x.fst))).x.AA.AD.nil) (cond (Nat.beq i4 ((0 : Nat) + (Int.toNat x.fst))) y1.snd.snd.AA.AD.nil (x.snd.rings.get i4).x.AA.AD.nil)) (cond (Nat.beq i4 ((0 : Nat) + (Int.toNat x.fst))) (cond (Nat.beq ((0 : Nat) + (Int.toNat x.fst)) ((0 : Nat) + (Int.toNat x.fst))) y1.snd.snd.AA.AD.n (x.snd.rings.get ((0 : Nat) + (Int.toNat x.fst))).x.AA.AD.n) (cond (Nat.beq i4 ((0 : Nat) + (Int.toNat x.fst))) y1.snd.snd.AA.AD.n (x.snd.rings.get i4).x.AA.AD.n)) (fun i5=>(cond (Nat.beq i4 ((0 : Nat) + (Int.toNat x.fst))) (cond (Nat.beq ((0 : Nat) + (Int.toNat x.fst)) ((0 : Nat) + (Int.toNat x.fst))) (y1.snd.snd.AA.AD.get i5) ((x.snd.rings.get ((0 : Nat) + (Int.toNat x.fst))).x.AA.AD.get i5)) (cond (Nat.beq i4 ((0 : Nat) + (Int.toNat x.fst))) (y1.snd.snd.AA.AD.get i5) ((x.snd.rings.get i4).x.AA.AD.get i5)))))) (Bx.mk (cond (Nat.beq i4 ((0 : Nat) + (Int.toNat x.fst))) (cond (Nat.beq ((0 : Nat) + (Int.toNat x.fst)) ((0 : Nat) + (Int.toNat x.fst))) y1.snd.snd.s.nil (x.snd.rings.get ((0 : Nat) + (Int.toNat x.fst))).x.s.nil) (cond (Nat.beq i4 ((0 : Nat) + (Int.toNat x.fst))) y1.snd.snd.s.nil (x.snd.rings.get i4).x.s.nil)) (TSs.mk (Sl.mk (cond (Nat.beq i4 ((0 : Nat) + (Int.toNat x.fst))) (cond (Nat.beq ((0 : Nat) + (Int.toNat x.fst)) ((0 : Nat) + (Int.toNat x.fst))) y1.snd.snd.s.x.l.nil (x.snd.rings.get ((0 : Nat) + (Int.toNat x.fst))).x.s.x.l.nil) (cond (Nat.beq i4 ((0 : Nat) + (Int.toNat x.fst))) y1.snd.snd.s.x.l.nil (x.snd.rings.get i4).x.s.x.l.nil)) (cond (Nat.beq i4 ((0 : Nat) + (Int.toNat x.fst))) (cond (Nat.beq ((0 : Nat) + (Int.toNat x.fst)) ((0 : Nat) + (Int.toNat x.fst))) y1.snd.snd.s.x.l.n (x.snd.rings.get ((0 : Nat) + (Int.toNat x.fst))).x.s.x.l.n) (cond (Nat.beq i4 ((0 : Nat) + (Int.toNat x.fst))) y1.snd.snd.s.x.l.n (x.snd.rings.get i4).x.s.x.l.n)) (fun i5=>(TSo.mk (cond (Nat.beq i4 ((0 : Nat) + (Int.toNat x.fst))) (cond (Nat.beq ((0 : Nat) + (Int.toNat x.fst)) ((0 : Nat) + (Int.toNat x.fst))) (y1.snd.snd.s.x.l.get i5).AO ((x.snd.rings.get ((0 : Nat) + (Int.toNat x.fst))).x.s.x.l.get i5).AO) (cond (Nat.beq i4 ((0 : Nat) + (Int.toNat x.fst))) (y1.snd.snd.s.x.l.get i5).AO ((x.snd.rings.get i4).x.s.x.l.get i5).AO)) (cond (Nat.beq i4 ((0 : Nat) + (Int.toNat x.fst))) (cond (Nat.beq ((0 : Nat) + (Int.toNat x.fst)) ((0 : Nat) + (Int.toNat x.fst))) (y1.snd.snd.s.x.l.get i5).Value ((x.snd.rings.get ((0 : Nat) + (Int.toNat x.fst))).x.s.x.l.get i5).Value) (cond (Nat.beq i4 ((0 : Nat) + (Int.toNat x.fst))) (y1.snd.snd.s.x.l.get i5).Value ((x.snd.rings.get i4).x.s.x.l.get i5).Value)) (cond (Nat.beq i4 ((0 : Nat) + (Int.toNat x.fst))) (cond (Nat.beq ((0 : Nat) + (Int.toNat x.fst)) ((0 : Nat) + (Int.toNat x.fst))) (y1.snd.snd.s.x.l.get i5).Left ((x.snd.rings.get ((0 : Nat) + (Int.toNat x.fst))).x.s.x.l.get i5).Left) (cond (Nat.beq i4 ((0 : Nat) + (Int.toNat x.fst))) (y1.snd.snd.s.x.l.get i5).Left ((x.snd.rings.get i4).x.s.x.l.get i5).Left))))) (cond (Nat.beq i4 ((0 : Nat) + (Int.toNat x.fst))) (cond (Nat.beq ((0 : Nat) + (Int.toNat x.fst)) ((0 : Nat) + (Int.toNat x.fst))) y1.snd.snd.s.x.AW (x.snd.rings.get ((0 : Nat) + (Int.toNat x.fst))).x.s.x.AW) (cond (Nat.beq i4 ((0 : Nat) + (Int.toNat x.fst))) y1.snd.snd.s.x.AW (x.snd.rings.get i4).x.s.x.AW)))) (cond (Nat.beq i4 ((0 : Nat) + (Int.toNat x.fst))) (cond (Nat.beq ((0 : Nat) + (Int.toNat x.fst)) ((0 : Nat) + (Int.toNat x.fst))) y1.snd.snd.most (x.snd.rings.get ((0 : Nat) + (Int.toNat x.fst))).x.most) (cond (Nat.beq i4 ((0 : Nat) + (Int.toNat x.fst))) y1.snd.snd.most (x.snd.rings.get i4).x.most)) (cond (Nat.beq i4 ((0 : Nat) + (Int.toNat x.fst))) (cond (Nat.beq ((0 : Nat) + (Int.toNat x.fst)) ((0 : Nat) + (Int.toNat x.fst))) y1.snd.snd.closed (x.snd.rings.get ((0 : Nat) + (Int.toNat x.fst))).x.closed) (cond (Nat.beq i4 ((0 : Nat) + (Int.toNat x.fst))) y1.snd.snd.closed (x.snd.rings.get i4).x.closed)))))) x.snd.now x.snd.reads x.snd.ended))))))))))))))))))
theorem sd_f2d (x : X_f2d) : (tt_f2d x).AH :=
 (TT.sN (TT.sN (TT.sC fun _=>(TT.sN (TT.sS rfl (TT.sN (TT.sI TT.sR (TT.sN (TT.sN (TT.sC fun _=>(TT.sN (TT.sS rfl (TT.sN (TT.sN (TT.sC fun _=>(TT.sI (TT.sN (TT.sN (TT.sN TT.sR))) TT.sR))))))))))))))))
def D_f2d : AQ X_f2d R_f2d:=.of tt_f2d
def con_f2d : A3 Tryz.prog :=
 BZ 99 J_f2d S_f2d D_f2d 2 1 [.any,.any] (lk mxk lbn sd_f2d)
abbrev X_f31 : Type:=Int × Int × TSs
abbrev R_f31 : Type:=Int × TSs
def J_f31 : A9 Tryz.prog :=
 BF Tryz.prog Tryz.f144 43 [] [(8,[.close (.loc 14 0)]),(10,[.close (.loc 14 0)]),(11,[.close (.loc 14 0)])] [(5,[.Ir (.par 0) [.CI 0 0] 14])] [.close (.loc 14 0)] [.any] [sh_TSs] [con_ft,con_f2u,con_f3a] R_f31 [(0,[⟨.loc 14 0,.par 0,[.CI 0 0],none,none⟩])] fun y=>[(V.int .i64) y.1,e_TSs y.2]
def S_f31 : AM :=
 Ae Tryz.f144 3 1 X_f31 (fun x=>[(V.ptr (.par 0) []),(V.int .u64) x.1,(V.int .u64) x.2.1,e_TSs x.2.2]) fun l=>(dI (at_ l 1),dI (at_ l 2),d_TSs (at_ l 3))
def tt_f31 (x : X_f31) : TT Tryz.prog R_f31 :=
 (.ite (Bd 4611686018427387904 x.fst)
 (.ret (1,x.snd.snd))
 (.call con_ft (x.fst,((TSs_L0.mk (Ln.mk x.snd.snd.l.nil x.snd.snd.l.n) x.snd.snd.AW),(Ar.mk x.snd.snd.l.n x.snd.snd.l.get))) fun (y1 : R_ft) =>
 (.need ((Nat.beq x.snd.snd.l.n y1.snd) && true) <|
 (.call con_f2u x.fst fun (y2 : R_f2u) =>
 (.ite (BS (x.snd.snd.l.get y1.fst).AO y2)
 (.need ((true && true) && (Nat.beq x.snd.snd.l.n x.snd.snd.l.n)) <|
 (.ret (8,x.snd.snd)))
 (.need ((Nat.beq x.snd.snd.l.n y1.snd) && true) <|
 (.call con_f2u x.fst fun (y3 : R_f2u) =>
 (.ite (BS y3 (x.snd.snd.l.get y1.fst).AO)
 (.need ((true && true) && (Nat.beq x.snd.snd.l.n x.snd.snd.l.n)) <|
 (.ret (11,x.snd.snd)))
 (.call con_f3a x.fst fun (y4 : R_f3a) =>
 (.need (Bd 0 x.snd.snd.AW) <|
 (.need ((Nat.beq x.snd.snd.l.n y1.snd) && true) <|
 (.need ((true && true) && (Nat.beq x.snd.snd.l.n x.snd.snd.l.n)) <|
 (.ret (0,(TSs.mk (Sl.mk x.snd.snd.l.nil x.snd.snd.l.n (fun i5=>(TSo.mk (cond (Nat.beq i5 y1.fst) y4 (x.snd.snd.l.get i5).AO) (cond (Nat.beq i5 y1.fst) x.snd.fst (x.snd.snd.l.get i5).Value) (cond (Nat.beq i5 y1.fst) (IntKind.i64.wrap ((shl IntKind.i64 1 x.snd.snd.AW) - 1)) (x.snd.snd.l.get i5).Left)))) x.snd.snd.AW)))))))))))))))
theorem sd_f31 (x : X_f31) : (tt_f31 x).AH :=
 (TT.sI TT.sR (TT.sC fun _=>(TT.sN (TT.sC fun _=>(TT.sI (TT.sN TT.sR) (TT.sN (TT.sC fun _=>(TT.sI (TT.sN TT.sR) (TT.sC fun _=>(TT.sN (TT.sN (TT.sN TT.sR))))))))))))
def D_f31 : AQ X_f31 R_f31:=.of tt_f31
def con_f31 : A3 Tryz.prog :=
 BZ 144 J_f31 S_f31 D_f31 3 1 [.any,.any,.any] (lk mxk lbn sd_f31)
abbrev X_f2p : Type:=Int × Int × TRr
abbrev R_f2p : Type:=Int × TRr
def J_f2p : A9 Tryz.prog :=
 BF Tryz.prog Tryz.f100 25 [] [] [] [.close (.loc 21 0)] [.any] [sh_TRr] [con_f31] R_f2p [] fun y=>[(V.int .i64) y.1,e_TRr y.2]
def S_f2p : AM :=
 Ae Tryz.f100 3 1 X_f2p (fun x=>[(V.ptr (.par 0) []),(V.int .u64) x.1,(V.int .u64) x.2.1,e_TRr x.2.2]) fun l=>(dI (at_ l 1),dI (at_ l 2),d_TRr (at_ l 3))
def tt_f2p (x : X_f2p) : TT Tryz.prog R_f2p :=
 (.ite (Bd x.snd.snd.AA.tail x.fst)
 (.ret (11,x.snd.snd))
 (.need (true && (!x.snd.snd.s.nil)) <|
 (.call con_f31 (x.fst,(x.snd.fst,x.snd.snd.s.x)) fun (y1 : R_f31) =>
 (.ret (y1.fst,(TRr.mk x.snd.snd.AA (Bx.mk false y1.snd) x.snd.snd.most x.snd.snd.closed))))))
theorem sd_f2p (x : X_f2p) : (tt_f2p x).AH :=
 (TT.sI TT.sR (TT.sN (TT.sC fun _=>TT.sR)))
def D_f2p : AQ X_f2p R_f2p:=.of tt_f2p
def con_f2p : A3 Tryz.prog :=
 BZ 100 J_f2p S_f2p D_f2p 3 1 [.any,.any,.any] (lk mxk lbn sd_f2p)
abbrev X_f1b : Type:=Int × TRr
abbrev R_f1b : Type:=Int × Int × TRr
def J_f1b : A9 Tryz.prog :=
 BF Tryz.prog Tryz.f101 49 [] [(10,[.close (.loc 34 0)])] [] [.close (.loc 44 0),.close (.loc 34 0)] [.any,.any] [sh_TRr] [con_f1g,con_fw] R_f1b [] fun y=>[V.CC (V.cons ((V.int .u64) y.1) (V.cons ((V.int .i64) y.2.1) (V.unit))),e_TRr y.2.2]
def S_f1b : AM :=
 Ae Tryz.f101 2 1 X_f1b (fun x=>[(V.ptr (.par 0) []),(V.int .i64) x.1,e_TRr x.2]) fun l=>(dI (at_ l 1),d_TRr (at_ l 2))
structure X_f1b_9 where
 Ed : Int
 Ah : TRr
def S_f1b_9 : AM :=
 Ad Tryz.f101 9 (an [0,1]) [sh_TRr] [] X_f1b_9 (fun x=>[(V.ptr (.par 0) []),(V.int .i64) x.Ed,e_TRr x.Ah]) fun l=>⟨dI (at_ l 1),d_TRr (at_ l 2)⟩
def tt_f1b_9 (x : X_f1b_9) : TT Tryz.prog R_f1b :=
 (.need (A0 x.Ed x.Ah.AA.AD.n) <|
 (.need ((Nat.beq x.Ah.AA.AD.n x.Ah.AA.AD.n) && true) <|
 (.need (A0 x.Ed x.Ah.AA.AD.n) <|
 (.need ((Nat.beq x.Ah.AA.AD.n x.Ah.AA.AD.n) && true) <|
 (.need ((true && true) && (Nat.beq x.Ah.AA.AD.n x.Ah.AA.AD.n)) <|
 (.need (A0 x.Ed x.Ah.AA.AD.n) <|
 (.need ((Nat.beq x.Ah.AA.AD.n x.Ah.AA.AD.n) && true) <|
 (.need ((true && true) && (Nat.beq x.Ah.AA.AD.n x.Ah.AA.AD.n)) <|
 (.ret ((IntKind.u64.wrap ((cond (Nat.beq ((0 : Nat) + (Int.toNat x.Ed)) ((0 : Nat) + (Int.toNat x.Ed))) (IntKind.u64.wrap ((x.Ah.AA.AD.get ((0 : Nat) + (Int.toNat x.Ed))) + 1)) (x.Ah.AA.AD.get ((0 : Nat) + (Int.toNat x.Ed)))) - 1)),(0,(TRr.mk (TRc.mk x.Ah.AA.tail (Sl.mk x.Ah.AA.AD.nil x.Ah.AA.AD.n (fun i1=>(cond (Nat.beq i1 ((0 : Nat) + (Int.toNat x.Ed))) (IntKind.u64.wrap ((x.Ah.AA.AD.get ((0 : Nat) + (Int.toNat x.Ed))) + 1)) (x.Ah.AA.AD.get i1))))) x.Ah.s x.Ah.most x.Ah.closed))))))))))))
theorem sd_f1b_9 (x : X_f1b_9) : (tt_f1b_9 x).AH :=
 (TT.sN (TT.sN (TT.sN (TT.sN (TT.sN (TT.sN (TT.sN (TT.sN TT.sR))))))))
def D_f1b_9 : AQ X_f1b_9 R_f1b:=.of tt_f1b_9
theorem ok_f1b_9 : AV J_f1b S_f1b_9 D_f1b_9 :=
 lk mxk lbn sd_f1b_9
def tt_f1b (x : X_f1b) : TT Tryz.prog R_f1b :=
 (.call con_fw (x.fst,x.snd.AA) fun (y1 : R_fw) =>
 (.ite (!y1)
 (.ret (0,(1,x.snd)))
 (.call con_f1g x fun (y2 : R_f1g) =>
 (.ite y2
 (.ite x.snd.closed
 (.ret (0,(10,x.snd)))
 (.call con_f1g x fun (y3 : R_f1g) =>
 (.ite y3
 (.ret (0,(9,x.snd)))
 (.jump S_f1b_9 D_f1b_9 (X_f1b_9.mk x.fst x.snd)))))
 (.call con_f1g x fun (y3 : R_f1g) =>
 (.ite y3
 (.ret (0,(9,x.snd)))
 (.jump S_f1b_9 D_f1b_9 (X_f1b_9.mk x.fst x.snd))))))))
theorem sd_f1b (x : X_f1b) : (tt_f1b x).AH :=
 (TT.sC fun _=>(TT.sI TT.sR (TT.sC fun _=>(TT.sI (TT.sI TT.sR (TT.sC fun _=>(TT.sI TT.sR TT.sJ))) (TT.sC fun _=>(TT.sI TT.sR TT.sJ))))))
def D_f1b : AQ X_f1b R_f1b:=.of tt_f1b
def con_f1b : A3 Tryz.prog :=
 BZ 101 J_f1b S_f1b D_f1b 2 1 [.any,.any] (lk mxk (lbc ok_f1b_9 rfl lbn) sd_f1b)
abbrev X_f32 : Type:=Int × Int × TSs
abbrev R_f32 : Type:=Int × Int × TSs
def J_f32 : A9 Tryz.prog :=
 BF Tryz.prog Tryz.f145 52 [] [(9,[.close (.loc 44 0),.close (.loc 20 0)])] [(4,[.Ir (.par 0) [.CI 0 0] 20])] [.close (.loc 44 0),.close (.loc 20 0)] [.any,.any] [sh_TSs] [con_fn,con_ft,con_f2u] R_f32 [(0,[⟨.loc 20 0,.par 0,[.CI 0 0],none,none⟩])] fun y=>[V.CC (V.cons ((V.int .u64) y.1) (V.cons ((V.int .i64) y.2.1) (V.unit))),e_TSs y.2.2]
def S_f32 : AM :=
 Ae Tryz.f145 3 1 X_f32 (fun x=>[(V.ptr (.par 0) []),(V.int .i64) x.1,(V.int .u64) x.2.1,e_TSs x.2.2]) fun l=>(dI (at_ l 1),dI (at_ l 2),d_TSs (at_ l 3))
def tt_f32 (x : X_f32) : TT Tryz.prog R_f32 :=
 (.call con_fn x fun (y1 : R_fn) =>
 (.ite (!(AX y1 0))
 (.ret (0,(y1,x.snd.snd)))
 (.call con_ft (x.snd.fst,((TSs_L0.mk (Ln.mk x.snd.snd.l.nil x.snd.snd.l.n) x.snd.snd.AW),(Ar.mk x.snd.snd.l.n x.snd.snd.l.get))) fun (y2 : R_ft) =>
 (.need ((Nat.beq x.snd.snd.l.n y2.snd) && true) <|
 (.need ((Nat.beq x.snd.snd.l.n y2.snd) && true) <|
 (.need (Bd 0 x.fst) <|
 (.need ((Nat.beq x.snd.snd.l.n y2.snd) && true) <|
 (.need ((Nat.beq x.snd.snd.l.n y2.snd) && true) <|
 (.ite (AX (cond (Nat.beq y2.fst y2.fst) (Vm.bits .andNot IntKind.i64 (x.snd.snd.l.get y2.fst).Left (shl IntKind.i64 1 x.fst)) (x.snd.snd.l.get y2.fst).Left) 0)
 (.call con_f2u (IntKind.u64.wrap (x.snd.fst + (IntKind.u64.wrap ((x.snd.snd.l.n : Nat) : Int)))) fun (y3 : R_f2u) =>
 (.need ((Nat.beq x.snd.snd.l.n y2.snd) && true) <|
 (.need ((true && true) && (Nat.beq x.snd.snd.l.n x.snd.snd.l.n)) <|
 (.ret ((x.snd.snd.l.get y2.fst).Value,(0,(TSs.mk (Sl.mk x.snd.snd.l.nil x.snd.snd.l.n (fun i4=>(TSo.mk (cond (Nat.beq i4 y2.fst) y3 (cond (Nat.beq i4 y2.fst) (x.snd.snd.l.get y2.fst).AO (x.snd.snd.l.get i4).AO)) (cond (Nat.beq i4 y2.fst) (0 : Int) (cond (Nat.beq i4 y2.fst) (x.snd.snd.l.get y2.fst).Value (x.snd.snd.l.get i4).Value)) (cond (Nat.beq i4 y2.fst) (0 : Int) (cond (Nat.beq i4 y2.fst) (Vm.bits .andNot IntKind.i64 (x.snd.snd.l.get y2.fst).Left (shl IntKind.i64 1 x.fst)) (x.snd.snd.l.get i4).Left))))) x.snd.snd.AW)))))))
 (.need ((true && true) && (Nat.beq x.snd.snd.l.n x.snd.snd.l.n)) <|
 (.ret ((x.snd.snd.l.get y2.fst).Value,(0,(TSs.mk (Sl.mk x.snd.snd.l.nil x.snd.snd.l.n (fun i3=>(TSo.mk (cond (Nat.beq i3 y2.fst) (x.snd.snd.l.get y2.fst).AO (x.snd.snd.l.get i3).AO) (cond (Nat.beq i3 y2.fst) (x.snd.snd.l.get y2.fst).Value (x.snd.snd.l.get i3).Value) (cond (Nat.beq i3 y2.fst) (Vm.bits .andNot IntKind.i64 (x.snd.snd.l.get y2.fst).Left (shl IntKind.i64 1 x.fst)) (x.snd.snd.l.get i3).Left)))) x.snd.snd.AW))))))))))))))
theorem sd_f32 (x : X_f32) : (tt_f32 x).AH :=
 (TT.sC fun _=>(TT.sI TT.sR (TT.sC fun _=>(TT.sN (TT.sN (TT.sN (TT.sN (TT.sN (TT.sI (TT.sC fun _=>(TT.sN (TT.sN TT.sR))) (TT.sN TT.sR))))))))))
def D_f32 : AQ X_f32 R_f32:=.of tt_f32
def con_f32 : A3 Tryz.prog :=
 BZ 145 J_f32 S_f32 D_f32 3 1 [.any,.any,.any] (lk mxk lbn sd_f32)
abbrev X_f2q : Type:=Int × Int × TRr
abbrev R_f2q : Type:=Int × Int × TRr
def J_f2q : A9 Tryz.prog :=
 BF Tryz.prog Tryz.f102 38 [] [(6,[.close (.loc 24 0)]),(7,[.close (.loc 24 0)])] [] [.close (.loc 32 0),.close (.loc 24 0)] [.any,.any] [sh_TRr] [con_fw,con_f32] R_f2q [] fun y=>[V.CC (V.cons ((V.int .u64) y.1) (V.cons ((V.int .i64) y.2.1) (V.unit))),e_TRr y.2.2]
def S_f2q : AM :=
 Ae Tryz.f102 3 1 X_f2q (fun x=>[(V.ptr (.par 0) []),(V.int .i64) x.1,(V.int .u64) x.2.1,e_TRr x.2.2]) fun l=>(dI (at_ l 1),dI (at_ l 2),d_TRr (at_ l 3))
def tt_f2q (x : X_f2q) : TT Tryz.prog R_f2q :=
 (.call con_fw (x.fst,x.snd.snd.AA) fun (y1 : R_fw) =>
 (.ite (!y1)
 (.ret (0,(1,x.snd.snd)))
 (.need (A0 x.fst x.snd.snd.AA.AD.n) <|
 (.need ((Nat.beq x.snd.snd.AA.AD.n x.snd.snd.AA.AD.n) && true) <|
 (.ite (Bd (x.snd.snd.AA.AD.get ((0 : Nat) + (Int.toNat x.fst))) x.snd.fst)
 (.need ((true && true) && (Nat.beq x.snd.snd.AA.AD.n x.snd.snd.AA.AD.n)) <|
 (.ret (0,(11,x.snd.snd))))
 (.need ((true && true) && (Nat.beq x.snd.snd.AA.AD.n x.snd.snd.AA.AD.n)) <|
 (.need (true && (!x.snd.snd.s.nil)) <|
 (.call con_f32 (x.fst,(x.snd.fst,x.snd.snd.s.x)) fun (y2 : R_f32) =>
 (.ret (y2.fst,(y2.snd.fst,(TRr.mk x.snd.snd.AA (Bx.mk false y2.snd.snd) x.snd.snd.most x.snd.snd.closed))))))))))))
theorem sd_f2q (x : X_f2q) : (tt_f2q x).AH :=
 (TT.sC fun _=>(TT.sI TT.sR (TT.sN (TT.sN (TT.sI (TT.sN TT.sR) (TT.sN (TT.sN (TT.sC fun _=>TT.sR))))))))
def D_f2q : AQ X_f2q R_f2q:=.of tt_f2q
def con_f2q : A3 Tryz.prog :=
 BZ 102 J_f2q S_f2q D_f2q 3 1 [.any,.any,.any] (lk mxk lbn sd_f2q)
abbrev X_f34 : Type:=TRr
abbrev R_f34 : Type:=Int × TRr
def J_f34 : A9 Tryz.prog :=
 BF Tryz.prog Tryz.f103 8 [] [] [] [] [.any] [sh_TRr] [] R_f34 [] fun y=>[(V.int .i64) y.1,e_TRr y.2]
def S_f34 : AM :=
 Ae Tryz.f103 1 1 X_f34 (fun x=>[(V.ptr (.par 0) []),e_TRr x]) fun l=>(d_TRr (at_ l 1))
def tt_f34 (x : X_f34) : TT Tryz.prog R_f34 :=
 (.ret (0,(TRr.mk x.AA x.s x.most true)))
theorem sd_f34 (x : X_f34) : (tt_f34 x).AH :=
 TT.sR
def D_f34 : AQ X_f34 R_f34:=.of tt_f34
def con_f34 : A3 Tryz.prog :=
 BZ 103 J_f34 S_f34 D_f34 1 1 [.any] (lk mxk lbn sd_f34)
abbrev X_fh : Type:=TEv × TFa
abbrev R_fh : Type:=TFa
def J_fh : A9 Tryz.prog :=
 BF Tryz.prog Tryz.f57 131 [(3,3),(48,1),(101,1)] [(8,[.close (.loc 27 0),.close (.loc 23 0)]),(9,[.close (.loc 27 0),.close (.loc 23 0)]),(10,[.close (.loc 42 0),.close (.loc 38 0),.close (.loc 27 0),.close (.loc 23 0)]),(11,[.close (.loc 42 0),.close (.loc 38 0),.close (.loc 27 0),.close (.loc 23 0)]),(12,[.close (.loc 56 0),.close (.loc 52 0),.close (.loc 42 0),.close (.loc 38 0),.close (.loc 27 0),.close (.loc 23 0)]),(13,[.close (.loc 56 0),.close (.loc 52 0),.close (.loc 42 0),.close (.loc 38 0),.close (.loc 27 0),.close (.loc 23 0)]),(14,[.close (.loc 73 0),.close (.loc 69 0),.close (.loc 56 0),.close (.loc 52 0),.close (.loc 42 0),.close (.loc 38 0),.close (.loc 27 0),.close (.loc 23 0)]),(15,[.close (.loc 73 0),.close (.loc 69 0),.close (.loc 56 0),.close (.loc 52 0),.close (.loc 42 0),.close (.loc 38 0),.close (.loc 27 0),.close (.loc 23 0)]),(16,[.close (.loc 73 0),.close (.loc 69 0),.close (.loc 56 0),.close (.loc 52 0),.close (.loc 42 0),.close (.loc 38 0),.close (.loc 27 0),.close (.loc 23 0)]),(17,[.close (.loc 73 0),.close (.loc 69 0),.close (.loc 56 0),.close (.loc 52 0),.close (.loc 42 0),.close (.loc 38 0),.close (.loc 27 0),.close (.loc 23 0)]),(18,[.close (.loc 73 0),.close (.loc 69 0),.close (.loc 56 0),.close (.loc 52 0),.close (.loc 42 0),.close (.loc 38 0),.close (.loc 27 0),.close (.loc 23 0)]),(19,[.close (.loc 73 0),.close (.loc 69 0),.close (.loc 56 0),.close (.loc 52 0),.close (.loc 42 0),.close (.loc 38 0),.close (.loc 27 0),.close (.loc 23 0)]),(20,[.close (.loc 73 0),.close (.loc 69 0),.close (.loc 56 0),.close (.loc 52 0),.close (.loc 42 0),.close (.loc 38 0),.close (.loc 27 0),.close (.loc 23 0)])] [(7,[.Ir (.par 0) [.CI 2 3] 23]),(9,[.Ir (.par 0) [.CI 2 3] 38]),(11,[.Ir (.par 0) [.CI 2 3] 52]),(13,[.Ir (.par 0) [.CI 2 3] 69]),(20,[.Ir (.par 0) [.CI 1 2] 105,.Ir (.par 0) [.CI 1 2] 120])] [.close (.loc 120 0),.close (.loc 105 0),.close (.loc 73 0),.close (.loc 69 0),.close (.loc 56 0),.close (.loc 52 0),.close (.loc 42 0),.close (.loc 38 0),.close (.loc 27 0),.close (.loc 23 0)] [] [sh_TFa] [con_f19,con_f2d,con_f34,con_f2p,con_f2q,con_f1b,con_f2b] R_fh [(0,[⟨.loc 23 0,.par 0,[.CI 2 3],none,none⟩,⟨.loc 38 0,.par 0,[.CI 2 3],none,none⟩,⟨.loc 52 0,.par 0,[.CI 2 3],none,none⟩,⟨.loc 69 0,.par 0,[.CI 2 3],none,none⟩,⟨.loc 105 0,.par 0,[.CI 1 2],none,none⟩,⟨.loc 120 0,.par 0,[.CI 1 2],none,none⟩]),(20,[⟨.loc 23 0,.par 0,[.CI 2 3],none,none⟩,⟨.loc 38 0,.par 0,[.CI 2 3],none,none⟩,⟨.loc 52 0,.par 0,[.CI 2 3],none,none⟩,⟨.loc 69 0,.par 0,[.CI 2 3],none,none⟩,⟨.loc 105 0,.par 0,[.CI 1 2],none,none⟩,⟨.loc 120 0,.par 0,[.CI 1 2],none,none⟩])] fun y=>[V.CC (V.unit),e_TFa y]
def S_fh : AM :=
 Ae Tryz.f57 2 1 X_fh (fun x=>[(V.ptr (.par 0) []),e_TEv x.1,e_TFa x.2]) fun l=>(d_TEv (at_ l 1),d_TFa (at_ l 2))
structure X_fh_20 where
 DG : TEv
 v_5 : Int
 Ah : TFa
def S_fh_20 : AM :=
 Ad Tryz.f57 20 (an [0,3,5]) [sh_TFa] [] X_fh_20 (fun x=>[(V.ptr (.par 0) []),(CR e_TEv) x.DG,(V.int .u64) x.v_5,e_TFa x.Ah]) fun l=>⟨(CS d_TEv) (at_ l 1),dI (at_ l 2),d_TFa (at_ l 3)⟩
def tt_fh_20 (x : X_fh_20) : TT Tryz.prog R_fh :=
 (.need (A0 x.DG.Thread x.Ah.p.AB.n) <|
 (.need (A0 x.DG.Thread x.Ah.threads.n) <|
 (.need ((Nat.beq x.Ah.threads.n x.Ah.threads.n) && true) <|
 (.call con_f2b ((x.Ah.p.AB.get (Int.toNat x.DG.Thread)),((x.Ah.threads.get ((0 : Nat) + (Int.toNat x.DG.Thread))),(x.DG,x.v_5))) fun (y1 : R_f2b) =>
 (.need (A0 x.DG.Thread x.Ah.threads.n) <|
 (.need ((Nat.beq x.Ah.threads.n x.Ah.threads.n) && true) <|
 (.need ((true && true) && (Nat.beq x.Ah.threads.n x.Ah.threads.n)) <|
 (.ret (TFa.mk x.Ah.p (Sl.mk x.Ah.threads.nil x.Ah.threads.n (fun i2=>(TTh.mk (cond (Nat.beq i2 ((0 : Nat) + (Int.toNat x.DG.Thread))) y1.fst.At (x.Ah.threads.get i2).At) (cond (Nat.beq i2 ((0 : Nat) + (Int.toNat x.DG.Thread))) y1.fst.Phase (x.Ah.threads.get i2).Phase) (cond (Nat.beq i2 ((0 : Nat) + (Int.toNat x.DG.Thread))) y1.fst.Ring (x.Ah.threads.get i2).Ring) (cond (Nat.beq i2 ((0 : Nat) + (Int.toNat x.DG.Thread))) y1.fst.Status (x.Ah.threads.get i2).Status) (cond (Nat.beq i2 ((0 : Nat) + (Int.toNat x.DG.Thread))) y1.fst.AG (x.Ah.threads.get i2).AG) (fun i3=>(cond (Nat.beq i2 ((0 : Nat) + (Int.toNat x.DG.Thread))) (y1.fst.Af i3) ((x.Ah.threads.get i2).Af i3))) (Sl.mk (cond (Nat.beq i2 ((0 : Nat) + (Int.toNat x.DG.Thread))) y1.fst.Seen.nil (x.Ah.threads.get i2).Seen.nil) (cond (Nat.beq i2 ((0 : Nat) + (Int.toNat x.DG.Thread))) y1.fst.Seen.n (x.Ah.threads.get i2).Seen.n) (fun i3=>(cond (Nat.beq i2 ((0 : Nat) + (Int.toNat x.DG.Thread))) (y1.fst.Seen.get i3) ((x.Ah.threads.get i2).Seen.get i3))))))) x.Ah.rings x.Ah.now x.Ah.reads x.Ah.ended)))))))))
theorem sd_fh_20 (x : X_fh_20) : (tt_fh_20 x).AH :=
 (TT.sN (TT.sN (TT.sN (TT.sC fun _=>(TT.sN (TT.sN (TT.sN TT.sR)))))))
def D_fh_20 : AQ X_fh_20 R_fh:=.of tt_fh_20
theorem ok_fh_20 : AV J_fh S_fh_20 D_fh_20 :=
 lk mxk lbn sd_fh_20
def tt_fh (x : X_fh) : TT Tryz.prog R_fh :=
 (.call con_f19 (x.fst.Thread,x.snd) fun (y1 : R_f19) =>
 (.ite (AX x.fst.Kind 1)
 (.call con_f2d (x.fst.Ring,x.snd) fun (y2 : R_f2d) =>
 (.jump S_fh_20 D_fh_20 (X_fh_20.mk x.fst 0 y2)))
 (.ite (AX x.fst.Kind 2)
 (.need (A0 x.fst.Ring x.snd.rings.n) <|
 (.need (((Nat.beq x.snd.rings.n x.snd.rings.n) && true) && (!(x.snd.rings.get ((0 : Nat) + (Int.toNat x.fst.Ring))).nil)) <|
 (.call con_f2p (x.fst.AG,(y1.Value,(x.snd.rings.get ((0 : Nat) + (Int.toNat x.fst.Ring))).x)) fun (y2 : R_f2p) =>
 (.need ((true && true) && ((Nat.beq x.snd.rings.n x.snd.rings.n) && (Nat.blt ((0 : Nat) + (Int.toNat x.fst.Ring)) x.snd.rings.n))) <|
 (.side ((fun v : Nat → V=>v = v) (fun i3=>(cond (Nat.beq i3 ((0 : Nat) + (Int.toNat x.fst.Ring))) (V.ptr (Id.loc 27 0) List.nil) (V.Ai (x.snd.rings.get i3).nil (V.cons (V.cons (V.int IntKind.u64 (x.snd.rings.get i3).x.AA.tail) (V.cons (V.A4 41 1 (x.snd.rings.get i3).x.AA.AD.nil (x.snd.rings.get i3).x.AA.AD.n (fun i4=>(V.int IntKind.u64 ((x.snd.rings.get i3).x.AA.AD.get i4)))) V.unit)) (V.cons (V.Ai (x.snd.rings.get i3).x.s.nil (V.cons (V.A4 206 3 (x.snd.rings.get i3).x.s.x.l.nil (x.snd.rings.get i3).x.s.x.l.n (fun i4=>(V.cons (V.int IntKind.u64 ((x.snd.rings.get i3).x.s.x.l.get i4).AO) (V.cons (V.int IntKind.u64 ((x.snd.rings.get i3).x.s.x.l.get i4).Value) (V.cons (V.int IntKind.i64 ((x.snd.rings.get i3).x.s.x.l.get i4).Left) V.unit))))) (V.cons (V.int IntKind.i64 (x.snd.rings.get i3).x.s.x.AW) V.unit))) (V.cons (V.int IntKind.u64 (x.snd.rings.get i3).x.most) (V.cons (V.bool (x.snd.rings.get i3).x.closed) V.unit)))))))) <|
 (.need ((true && true) && (Nat.beq x.snd.rings.n x.snd.rings.n)) <|
 (.jump S_fh_20 D_fh_20 (X_fh_20.mk x.fst 0 (TFa.mk x.snd.p x.snd.threads (Sl.mk x.snd.rings.nil x.snd.rings.n (fun i3=>(Bx.mk (cond (Nat.beq i3 ((0 : Nat) + (Int.toNat x.fst.Ring))) false (x.snd.rings.get i3).nil) (TRr.mk (TRc.mk (cond (Nat.beq i3 ((0 : Nat) + (Int.toNat x.fst.Ring))) y2.snd.AA.tail (x.snd.rings.get i3).x.AA.tail) (Sl.mk (cond (Nat.beq i3 ((0 : Nat) + (Int.toNat x.fst.Ring))) y2.snd.AA.AD.nil (x.snd.rings.get i3).x.AA.AD.nil) (cond (Nat.beq i3 ((0 : Nat) + (Int.toNat x.fst.Ring))) y2.snd.AA.AD.n (x.snd.rings.get i3).x.AA.AD.n) (fun i4=>(cond (Nat.beq i3 ((0 : Nat) + (Int.toNat x.fst.Ring))) (y2.snd.AA.AD.get i4) ((x.snd.rings.get i3).x.AA.AD.get i4))))) (Bx.mk (cond (Nat.beq i3 ((0 : Nat) + (Int.toNat x.fst.Ring))) y2.snd.s.nil (x.snd.rings.get i3).x.s.nil) (TSs.mk (Sl.mk (cond (Nat.beq i3 ((0 : Nat) + (Int.toNat x.fst.Ring))) y2.snd.s.x.l.nil (x.snd.rings.get i3).x.s.x.l.nil) (cond (Nat.beq i3 ((0 : Nat) + (Int.toNat x.fst.Ring))) y2.snd.s.x.l.n (x.snd.rings.get i3).x.s.x.l.n) (fun i4=>(TSo.mk (cond (Nat.beq i3 ((0 : Nat) + (Int.toNat x.fst.Ring))) (y2.snd.s.x.l.get i4).AO ((x.snd.rings.get i3).x.s.x.l.get i4).AO) (cond (Nat.beq i3 ((0 : Nat) + (Int.toNat x.fst.Ring))) (y2.snd.s.x.l.get i4).Value ((x.snd.rings.get i3).x.s.x.l.get i4).Value) (cond (Nat.beq i3 ((0 : Nat) + (Int.toNat x.fst.Ring))) (y2.snd.s.x.l.get i4).Left ((x.snd.rings.get i3).x.s.x.l.get i4).Left)))) (cond (Nat.beq i3 ((0 : Nat) + (Int.toNat x.fst.Ring))) y2.snd.s.x.AW (x.snd.rings.get i3).x.s.x.AW))) (cond (Nat.beq i3 ((0 : Nat) + (Int.toNat x.fst.Ring))) y2.snd.most (x.snd.rings.get i3).x.most) (cond (Nat.beq i3 ((0 : Nat) + (Int.toNat x.fst.Ring))) y2.snd.closed (x.snd.rings.get i3).x.closed))))) x.snd.now x.snd.reads x.snd.ended)))))))))
 (.ite (AX x.fst.Kind 3)
 (.need (A0 x.fst.Ring x.snd.rings.n) <|
 (.need (((Nat.beq x.snd.rings.n x.snd.rings.n) && true) && (!(x.snd.rings.get ((0 : Nat) + (Int.toNat x.fst.Ring))).nil)) <|
 (.call con_f1b (y1.Reader,(x.snd.rings.get ((0 : Nat) + (Int.toNat x.fst.Ring))).x) fun (y2 : R_f1b) =>
 (.need ((true && true) && ((Nat.beq x.snd.rings.n x.snd.rings.n) && (Nat.blt ((0 : Nat) + (Int.toNat x.fst.Ring)) x.snd.rings.n))) <|
 (.side ((fun v : Nat → V=>v = v) (fun i3=>(cond (Nat.beq i3 ((0 : Nat) + (Int.toNat x.fst.Ring))) (V.ptr (Id.loc 42 0) List.nil) (V.Ai (x.snd.rings.get i3).nil (V.cons (V.cons (V.int IntKind.u64 (x.snd.rings.get i3).x.AA.tail) (V.cons (V.A4 41 1 (x.snd.rings.get i3).x.AA.AD.nil (x.snd.rings.get i3).x.AA.AD.n (fun i4=>(V.int IntKind.u64 ((x.snd.rings.get i3).x.AA.AD.get i4)))) V.unit)) (V.cons (V.Ai (x.snd.rings.get i3).x.s.nil (V.cons (V.A4 206 3 (x.snd.rings.get i3).x.s.x.l.nil (x.snd.rings.get i3).x.s.x.l.n (fun i4=>(V.cons (V.int IntKind.u64 ((x.snd.rings.get i3).x.s.x.l.get i4).AO) (V.cons (V.int IntKind.u64 ((x.snd.rings.get i3).x.s.x.l.get i4).Value) (V.cons (V.int IntKind.i64 ((x.snd.rings.get i3).x.s.x.l.get i4).Left) V.unit))))) (V.cons (V.int IntKind.i64 (x.snd.rings.get i3).x.s.x.AW) V.unit))) (V.cons (V.int IntKind.u64 (x.snd.rings.get i3).x.most) (V.cons (V.bool (x.snd.rings.get i3).x.closed) V.unit)))))))) <|
 (.need ((true && true) && (Nat.beq x.snd.rings.n x.snd.rings.n)) <|
 (.jump S_fh_20 D_fh_20 (X_fh_20.mk x.fst 0 (TFa.mk x.snd.p x.snd.threads (Sl.mk x.snd.rings.nil x.snd.rings.n (fun i3=>(Bx.mk (cond (Nat.beq i3 ((0 : Nat) + (Int.toNat x.fst.Ring))) false (x.snd.rings.get i3).nil) (TRr.mk (TRc.mk (cond (Nat.beq i3 ((0 : Nat) + (Int.toNat x.fst.Ring))) y2.snd.snd.AA.tail (x.snd.rings.get i3).x.AA.tail) (Sl.mk (cond (Nat.beq i3 ((0 : Nat) + (Int.toNat x.fst.Ring))) y2.snd.snd.AA.AD.nil (x.snd.rings.get i3).x.AA.AD.nil) (cond (Nat.beq i3 ((0 : Nat) + (Int.toNat x.fst.Ring))) y2.snd.snd.AA.AD.n (x.snd.rings.get i3).x.AA.AD.n) (fun i4=>(cond (Nat.beq i3 ((0 : Nat) + (Int.toNat x.fst.Ring))) (y2.snd.snd.AA.AD.get i4) ((x.snd.rings.get i3).x.AA.AD.get i4))))) (Bx.mk (cond (Nat.beq i3 ((0 : Nat) + (Int.toNat x.fst.Ring))) y2.snd.snd.s.nil (x.snd.rings.get i3).x.s.nil) (TSs.mk (Sl.mk (cond (Nat.beq i3 ((0 : Nat) + (Int.toNat x.fst.Ring))) y2.snd.snd.s.x.l.nil (x.snd.rings.get i3).x.s.x.l.nil) (cond (Nat.beq i3 ((0 : Nat) + (Int.toNat x.fst.Ring))) y2.snd.snd.s.x.l.n (x.snd.rings.get i3).x.s.x.l.n) (fun i4=>(TSo.mk (cond (Nat.beq i3 ((0 : Nat) + (Int.toNat x.fst.Ring))) (y2.snd.snd.s.x.l.get i4).AO ((x.snd.rings.get i3).x.s.x.l.get i4).AO) (cond (Nat.beq i3 ((0 : Nat) + (Int.toNat x.fst.Ring))) (y2.snd.snd.s.x.l.get i4).Value ((x.snd.rings.get i3).x.s.x.l.get i4).Value) (cond (Nat.beq i3 ((0 : Nat) + (Int.toNat x.fst.Ring))) (y2.snd.snd.s.x.l.get i4).Left ((x.snd.rings.get i3).x.s.x.l.get i4).Left)))) (cond (Nat.beq i3 ((0 : Nat) + (Int.toNat x.fst.Ring))) y2.snd.snd.s.x.AW (x.snd.rings.get i3).x.s.x.AW))) (cond (Nat.beq i3 ((0 : Nat) + (Int.toNat x.fst.Ring))) y2.snd.snd.most (x.snd.rings.get i3).x.most) (cond (Nat.beq i3 ((0 : Nat) + (Int.toNat x.fst.Ring))) y2.snd.snd.closed (x.snd.rings.get i3).x.closed))))) x.snd.now x.snd.reads x.snd.ended)))))))))
 (.ite (AX x.fst.Kind 4)
 (.need (A0 x.fst.Ring x.snd.rings.n) <|
 (.need (((Nat.beq x.snd.rings.n x.snd.rings.n) && true) && (!(x.snd.rings.get ((0 : Nat) + (Int.toNat x.fst.Ring))).nil)) <|
 (.call con_f2q (y1.Reader,(x.fst.AG,(x.snd.rings.get ((0 : Nat) + (Int.toNat x.fst.Ring))).x)) fun (y2 : R_f2q) =>
 (.need ((true && true) && ((Nat.beq x.snd.rings.n x.snd.rings.n) && (Nat.blt ((0 : Nat) + (Int.toNat x.fst.Ring)) x.snd.rings.n))) <|
 (.side ((fun v : Nat → V=>v = v) (fun i3=>(cond (Nat.beq i3 ((0 : Nat) + (Int.toNat x.fst.Ring))) (V.ptr (Id.loc 56 0) List.nil) (V.Ai (x.snd.rings.get i3).nil (V.cons (V.cons (V.int IntKind.u64 (x.snd.rings.get i3).x.AA.tail) (V.cons (V.A4 41 1 (x.snd.rings.get i3).x.AA.AD.nil (x.snd.rings.get i3).x.AA.AD.n (fun i4=>(V.int IntKind.u64 ((x.snd.rings.get i3).x.AA.AD.get i4)))) V.unit)) (V.cons (V.Ai (x.snd.rings.get i3).x.s.nil (V.cons (V.A4 206 3 (x.snd.rings.get i3).x.s.x.l.nil (x.snd.rings.get i3).x.s.x.l.n (fun i4=>(V.cons (V.int IntKind.u64 ((x.snd.rings.get i3).x.s.x.l.get i4).AO) (V.cons (V.int IntKind.u64 ((x.snd.rings.get i3).x.s.x.l.get i4).Value) (V.cons (V.int IntKind.i64 ((x.snd.rings.get i3).x.s.x.l.get i4).Left) V.unit))))) (V.cons (V.int IntKind.i64 (x.snd.rings.get i3).x.s.x.AW) V.unit))) (V.cons (V.int IntKind.u64 (x.snd.rings.get i3).x.most) (V.cons (V.bool (x.snd.rings.get i3).x.closed) V.unit)))))))) <|
 (.need ((true && true) && (Nat.beq x.snd.rings.n x.snd.rings.n)) <|
 (.jump S_fh_20 D_fh_20 (X_fh_20.mk x.fst y2.fst (TFa.mk x.snd.p x.snd.threads (Sl.mk x.snd.rings.nil x.snd.rings.n (fun i3=>(Bx.mk (cond (Nat.beq i3 ((0 : Nat) + (Int.toNat x.fst.Ring))) false (x.snd.rings.get i3).nil) (TRr.mk (TRc.mk (cond (Nat.beq i3 ((0 : Nat) + (Int.toNat x.fst.Ring))) y2.snd.snd.AA.tail (x.snd.rings.get i3).x.AA.tail) (Sl.mk (cond (Nat.beq i3 ((0 : Nat) + (Int.toNat x.fst.Ring))) y2.snd.snd.AA.AD.nil (x.snd.rings.get i3).x.AA.AD.nil) (cond (Nat.beq i3 ((0 : Nat) + (Int.toNat x.fst.Ring))) y2.snd.snd.AA.AD.n (x.snd.rings.get i3).x.AA.AD.n) (fun i4=>(cond (Nat.beq i3 ((0 : Nat) + (Int.toNat x.fst.Ring))) (y2.snd.snd.AA.AD.get i4) ((x.snd.rings.get i3).x.AA.AD.get i4))))) (Bx.mk (cond (Nat.beq i3 ((0 : Nat) + (Int.toNat x.fst.Ring))) y2.snd.snd.s.nil (x.snd.rings.get i3).x.s.nil) (TSs.mk (Sl.mk (cond (Nat.beq i3 ((0 : Nat) + (Int.toNat x.fst.Ring))) y2.snd.snd.s.x.l.nil (x.snd.rings.get i3).x.s.x.l.nil) (cond (Nat.beq i3 ((0 : Nat) + (Int.toNat x.fst.Ring))) y2.snd.snd.s.x.l.n (x.snd.rings.get i3).x.s.x.l.n) (fun i4=>(TSo.mk (cond (Nat.beq i3 ((0 : Nat) + (Int.toNat x.fst.Ring))) (y2.snd.snd.s.x.l.get i4).AO ((x.snd.rings.get i3).x.s.x.l.get i4).AO) (cond (Nat.beq i3 ((0 : Nat) + (Int.toNat x.fst.Ring))) (y2.snd.snd.s.x.l.get i4).Value ((x.snd.rings.get i3).x.s.x.l.get i4).Value) (cond (Nat.beq i3 ((0 : Nat) + (Int.toNat x.fst.Ring))) (y2.snd.snd.s.x.l.get i4).Left ((x.snd.rings.get i3).x.s.x.l.get i4).Left)))) (cond (Nat.beq i3 ((0 : Nat) + (Int.toNat x.fst.Ring))) y2.snd.snd.s.x.AW (x.snd.rings.get i3).x.s.x.AW))) (cond (Nat.beq i3 ((0 : Nat) + (Int.toNat x.fst.Ring))) y2.snd.snd.most (x.snd.rings.get i3).x.most) (cond (Nat.beq i3 ((0 : Nat) + (Int.toNat x.fst.Ring))) y2.snd.snd.closed (x.snd.rings.get i3).x.closed))))) x.snd.now x.snd.reads x.snd.ended)))))))))
 (.ite (AX x.fst.Kind 13)
 (.need (A0 x.fst.Ring x.snd.rings.n) <|
 (.need (((Nat.beq x.snd.rings.n x.snd.rings.n) && true) && (!(x.snd.rings.get ((0 : Nat) + (Int.toNat x.fst.Ring))).nil)) <|
 (.call con_f34 (x.snd.rings.get ((0 : Nat) + (Int.toNat x.fst.Ring))).x fun (y2 : R_f34) =>
 (.need ((true && true) && ((Nat.beq x.snd.rings.n x.snd.rings.n) && (Nat.blt ((0 : Nat) + (Int.toNat x.fst.Ring)) x.snd.rings.n))) <|
 (.side ((fun v : Nat → V=>v = v) (fun i3=>(cond (Nat.beq i3 ((0 : Nat) + (Int.toNat x.fst.Ring))) (V.ptr (Id.loc 73 0) List.nil) (V.Ai (x.snd.rings.get i3).nil (V.cons (V.cons (V.int IntKind.u64 (x.snd.rings.get i3).x.AA.tail) (V.cons (V.A4 41 1 (x.snd.rings.get i3).x.AA.AD.nil (x.snd.rings.get i3).x.AA.AD.n (fun i4=>(V.int IntKind.u64 ((x.snd.rings.get i3).x.AA.AD.get i4)))) V.unit)) (V.cons (V.Ai (x.snd.rings.get i3).x.s.nil (V.cons (V.A4 206 3 (x.snd.rings.get i3).x.s.x.l.nil (x.snd.rings.get i3).x.s.x.l.n (fun i4=>(V.cons (V.int IntKind.u64 ((x.snd.rings.get i3).x.s.x.l.get i4).AO) (V.cons (V.int IntKind.u64 ((x.snd.rings.get i3).x.s.x.l.get i4).Value) (V.cons (V.int IntKind.i64 ((x.snd.rings.get i3).x.s.x.l.get i4).Left) V.unit))))) (V.cons (V.int IntKind.i64 (x.snd.rings.get i3).x.s.x.AW) V.unit))) (V.cons (V.int IntKind.u64 (x.snd.rings.get i3).x.most) (V.cons (V.bool (x.snd.rings.get i3).x.closed) V.unit)))))))) <|
 (.need ((true && true) && (Nat.beq x.snd.rings.n x.snd.rings.n)) <|
 (.jump S_fh_20 D_fh_20 (X_fh_20.mk x.fst 0 (TFa.mk x.snd.p x.snd.threads (Sl.mk x.snd.rings.nil x.snd.rings.n (fun i3=>(Bx.mk (cond (Nat.beq i3 ((0 : Nat) + (Int.toNat x.fst.Ring))) false (x.snd.rings.get i3).nil) (TRr.mk (TRc.mk (cond (Nat.beq i3 ((0 : Nat) + (Int.toNat x.fst.Ring))) y2.snd.AA.tail (x.snd.rings.get i3).x.AA.tail) (Sl.mk (cond (Nat.beq i3 ((0 : Nat) + (Int.toNat x.fst.Ring))) y2.snd.AA.AD.nil (x.snd.rings.get i3).x.AA.AD.nil) (cond (Nat.beq i3 ((0 : Nat) + (Int.toNat x.fst.Ring))) y2.snd.AA.AD.n (x.snd.rings.get i3).x.AA.AD.n) (fun i4=>(cond (Nat.beq i3 ((0 : Nat) + (Int.toNat x.fst.Ring))) (y2.snd.AA.AD.get i4) ((x.snd.rings.get i3).x.AA.AD.get i4))))) (Bx.mk (cond (Nat.beq i3 ((0 : Nat) + (Int.toNat x.fst.Ring))) y2.snd.s.nil (x.snd.rings.get i3).x.s.nil) (TSs.mk (Sl.mk (cond (Nat.beq i3 ((0 : Nat) + (Int.toNat x.fst.Ring))) y2.snd.s.x.l.nil (x.snd.rings.get i3).x.s.x.l.nil) (cond (Nat.beq i3 ((0 : Nat) + (Int.toNat x.fst.Ring))) y2.snd.s.x.l.n (x.snd.rings.get i3).x.s.x.l.n) (fun i4=>(TSo.mk (cond (Nat.beq i3 ((0 : Nat) + (Int.toNat x.fst.Ring))) (y2.snd.s.x.l.get i4).AO ((x.snd.rings.get i3).x.s.x.l.get i4).AO) (cond (Nat.beq i3 ((0 : Nat) + (Int.toNat x.fst.Ring))) (y2.snd.s.x.l.get i4).Value ((x.snd.rings.get i3).x.s.x.l.get i4).Value) (cond (Nat.beq i3 ((0 : Nat) + (Int.toNat x.fst.Ring))) (y2.snd.s.x.l.get i4).Left ((x.snd.rings.get i3).x.s.x.l.get i4).Left)))) (cond (Nat.beq i3 ((0 : Nat) + (Int.toNat x.fst.Ring))) y2.snd.s.x.AW (x.snd.rings.get i3).x.s.x.AW))) (cond (Nat.beq i3 ((0 : Nat) + (Int.toNat x.fst.Ring))) y2.snd.most (x.snd.rings.get i3).x.most) (cond (Nat.beq i3 ((0 : Nat) + (Int.toNat x.fst.Ring))) y2.snd.closed (x.snd.rings.get i3).x.closed))))) x.snd.now x.snd.reads x.snd.ended)))))))))
 (.ite (AX x.fst.Kind 8)
 (.jump S_fh_20 D_fh_20 (X_fh_20.mk x.fst 0 (TFa.mk x.snd.p x.snd.threads x.snd.rings (imax x.snd.now x.fst.Value) x.snd.reads x.snd.ended)))
 (.ite (AX x.fst.Kind 10)
 (.jump S_fh_20 D_fh_20 (X_fh_20.mk x.fst 0 (TFa.mk x.snd.p x.snd.threads x.snd.rings x.snd.now (IntKind.u64.wrap (x.snd.reads + 1)) x.snd.ended)))
 (.ite (AX x.fst.Kind 11)
 (.jump S_fh_20 D_fh_20 (X_fh_20.mk x.fst 0 (TFa.mk x.snd.p x.snd.threads x.snd.rings x.snd.now x.snd.reads true)))
 (.jump S_fh_20 D_fh_20 (X_fh_20.mk x.fst 0 x.snd)))))))))))
theorem sd_fh (x : X_fh) : (tt_fh x).AH :=
 (TT.sC fun _=>(TT.sI (TT.sC fun _=>TT.sJ) (TT.sI (TT.sN (TT.sN (TT.sC fun _=>(TT.sN (TT.sS rfl (TT.sN TT.sJ)))))) (TT.sI (TT.sN (TT.sN (TT.sC fun _=>(TT.sN (TT.sS rfl (TT.sN TT.sJ)))))) (TT.sI (TT.sN (TT.sN (TT.sC fun _=>(TT.sN (TT.sS rfl (TT.sN TT.sJ)))))) (TT.sI (TT.sN (TT.sN (TT.sC fun _=>(TT.sN (TT.sS rfl (TT.sN TT.sJ)))))) (TT.sI TT.sJ (TT.sI TT.sJ (TT.sI TT.sJ TT.sJ)))))))))
def D_fh : AQ X_fh R_fh:=.of tt_fh
def con_fh : A3 Tryz.prog :=
 BZ 57 J_fh S_fh D_fh 2 1 [.any,.any] (lk mxk (lbc ok_fh_20 rfl lbn) sd_fh)
abbrev X_f2k : Type:=TEv × TFa
abbrev R_f2k : Type:=Int × TFa
def J_f2k : A9 Tryz.prog :=
 BF Tryz.prog Tryz.f27 19 [(3,3)] [] [] [] [.any] [sh_TFa] [con_fe,con_fh,con_f15] R_f2k [] fun y=>[(V.int .i64) y.1,e_TFa y.2]
def S_f2k : AM :=
 Ae Tryz.f27 2 1 X_f2k (fun x=>[(V.ptr (.par 0) []),e_TEv x.1,e_TFa x.2]) fun l=>(d_TEv (at_ l 1),d_TFa (at_ l 2))
def tt_f2k (x : X_f2k) : TT Tryz.prog R_f2k :=
 (.call con_f15 (x.fst,x.snd) fun (y1 : R_f15) =>
 (.ite (!(AX y1 0))
 (.ret (y1,x.snd))
 (.call con_fe (x.fst,x.snd) fun (y2 : R_fe) =>
 (.ite (!y2)
 (.ret (11,x.snd))
 (.call con_fh (x.fst,x.snd) fun (y3 : R_fh) =>
 (.ret (0,y3)))))))
theorem sd_f2k (x : X_f2k) : (tt_f2k x).AH :=
 (TT.sC fun _=>(TT.sI TT.sR (TT.sC fun _=>(TT.sI TT.sR (TT.sC fun _=>TT.sR)))))
def D_f2k : AQ X_f2k R_f2k:=.of tt_f2k
def con_f2k : A3 Tryz.prog :=
 BZ 27 J_f2k S_f2k D_f2k 2 1 [.any,.any] (lk mxk lbn sd_f2k)
abbrev Dsl_TEv : Type:=(Sl TEv)
def esl_TEv : Dsl_TEv → V:=(LA none 5 e_TEv)
def dsl_TEv : V → Dsl_TEv:=(LX d_TEv)
def hsl_TEv : Sh:=(.sl none 5 (e_TEv (d_TEv .undef)))
abbrev X_fu : Type:=TPg × (Sl TEv)
abbrev R_fu : Type:=(Bx TFa) × Int × Int
def J_fu : A9 Tryz.prog :=
 BF Tryz.prog Tryz.f37 40 [(2,3),(11,1),(34,1),(37,1),(38,1)] [(6,[.open_ 7])] [] [.shut 4] [hbox_TFa,.any,.any] [] [con_f2k,con_f1h] R_fu [] fun y=>[V.CC (V.cons (ebox_TFa y.1) (V.cons ((V.int .i64) y.2.1) (V.cons ((V.int .i64) y.2.2) (V.unit))))]
def S_fu : AM :=
 Ae Tryz.f37 2 0 X_fu (fun x=>[e_TPg x.1,esl_TEv x.2]) fun l=>(d_TPg (at_ l 0),dsl_TEv (at_ l 1))
structure X_fu_7 where
 DS : (Sl TEv)
 Im : (Sl TEv)
 TI : Int
 F8 : Int
 DR : TFa
def S_fu_7 : AM :=
 Ad Tryz.f37 7 [(1,hsl_TEv),(7,.any),(23,hsl_TEv),(24,.any),(25,.any)] [] [(.loc 7 1,sh_TFa)] X_fu_7 (fun x=>[esl_TEv x.DS,(V.ptr (.loc 7 1) []),esl_TEv x.Im,(V.int .i64) x.TI,(V.int .i64) x.F8,e_TFa x.DR]) fun l=>⟨dsl_TEv (at_ l 0),dsl_TEv (at_ l 2),dI (at_ l 3),dI (at_ l 4),d_TFa (at_ l 5)⟩
structure X_fu_12 where
 DS : (Sl TEv)
 DR : TFa
def S_fu_12 : AM :=
 Ad Tryz.f37 12 [(1,hsl_TEv),(7,.any)] [] [(.loc 7 1,sh_TFa)] X_fu_12 (fun x=>[esl_TEv x.DS,(V.ptr (.loc 7 1) []),e_TFa x.DR]) fun l=>⟨dsl_TEv (at_ l 0),d_TFa (at_ l 2)⟩
def tt_fu_12 (x : X_fu_12) : TT Tryz.prog R_fu :=
 (.ret ((Bx.mk false x.DR),(((x.DS.n : Nat) : Int),0)))
theorem sd_fu_12 (x : X_fu_12) : (tt_fu_12 x).AH :=
 TT.sR
def D_fu_12 : AQ X_fu_12 R_fu:=.of tt_fu_12
theorem ok_fu_12 : AV J_fu S_fu_12 D_fu_12 :=
 lk mxk lbn sd_fu_12
def tt_fu_7 (D_fu_7 : AQ X_fu_7 R_fu) (x : X_fu_7) : TT Tryz.prog R_fu :=
 (.ite (BS x.F8 x.TI)
 (.need (A0 x.F8 x.Im.n) <|
 (.call con_f2k ((x.Im.get (Int.toNat x.F8)),x.DR) fun (y2 : R_f2k) =>
 (.ite (!(AX y2.fst 0))
 (.ret ((Bx.mk false y2.snd),(x.F8,0)))
 (.jump S_fu_7 D_fu_7 (X_fu_7.mk x.DS x.Im x.TI (IntKind.i64.wrap (x.F8 + 1)) y2.snd)))))
 (.jump S_fu_12 D_fu_12 (X_fu_12.mk x.DS x.DR)))
theorem sd_fu_7 (D_fu_7 : AQ X_fu_7 R_fu) (x : X_fu_7) : (tt_fu_7 D_fu_7 x).AH :=
 (TT.sI (TT.sN (TT.sC fun _=>(TT.sI TT.sR TT.sJ))) TT.sJ)
def D_fu_7 : AQ X_fu_7 R_fu:=AQ.loop tt_fu_7
theorem ok_fu_7 : AV J_fu S_fu_7 D_fu_7 :=
 Az fun D_fu_7 h_7=>lk mxk (lbc h_7 rfl (lbc ok_fu_12 rfl lbn)) (sd_fu_7 D_fu_7)
def tt_fu (x : X_fu) : TT Tryz.prog R_fu :=
 (.call con_f1h x.fst fun (y1 : R_f1h) =>
 (.ite (!(AX y1.snd 0))
 (.ret ((Bx.mk true (TFa.mk (TPg.mk (Sl.mk true 0 (fun _i2=>(TRg.mk 0 0 0))) (Sl.mk true 0 (fun _i2=>(Sl.mk true 0 (fun _i3=>(TIn.mk 0 0 0 0 0 0)))))) (Sl.mk true 0 (fun _i2=>(TTh.mk 0 0 0 0 0 (fun _i3=>(0 : Int)) (Sl.mk true 0 (fun _i3=>(0 : Int)))))) (Sl.mk true 0 (fun _i2=>(Bx.mk true (TRr.mk (TRc.mk 0 (Sl.mk true 0 (fun _i3=>(0 : Int)))) (Bx.mk true (TSs.mk (Sl.mk true 0 (fun _i3=>(TSo.mk 0 0 0))) 0)) 0 false)))) 0 0 false)),(0,1)))
 (.ite (BS 65536 ((x.snd.n : Nat) : Int))
 (.ret ((Bx.mk true (TFa.mk (TPg.mk (Sl.mk true 0 (fun _i2=>(TRg.mk 0 0 0))) (Sl.mk true 0 (fun _i2=>(Sl.mk true 0 (fun _i3=>(TIn.mk 0 0 0 0 0 0)))))) (Sl.mk true 0 (fun _i2=>(TTh.mk 0 0 0 0 0 (fun _i3=>(0 : Int)) (Sl.mk true 0 (fun _i3=>(0 : Int)))))) (Sl.mk true 0 (fun _i2=>(Bx.mk true (TRr.mk (TRc.mk 0 (Sl.mk true 0 (fun _i3=>(0 : Int)))) (Bx.mk true (TSs.mk (Sl.mk true 0 (fun _i3=>(TSo.mk 0 0 0))) 0)) 0 false)))) 0 0 false)),(0,4)))
 (.need (!y1.fst.nil) <|
 (.jump S_fu_7 D_fu_7 (X_fu_7.mk x.snd x.snd ((x.snd.n : Nat) : Int) 0 y1.fst.x))))))
theorem sd_fu (x : X_fu) : (tt_fu x).AH :=
 (TT.sC fun _=>(TT.sI TT.sR (TT.sI TT.sR (TT.sN TT.sJ))))
def D_fu : AQ X_fu R_fu:=.of tt_fu
def con_fu : A3 Tryz.prog :=
 BZ 37 J_fu S_fu D_fu 2 0 [sh_TPg,hsl_TEv] (lk mxk (lbc ok_fu_12 rfl (lbc ok_fu_7 rfl lbn)) sd_fu)
abbrev X_f3q : Type:=TPg × (Sl TEv)
abbrev R_f3q : Type:=Int × Int
def J_f3q : A9 Tryz.prog :=
 BF Tryz.prog Tryz.f13 18 [(2,3),(9,1),(11,1)] [] [] [] [.any,.any] [] [con_fu] R_f3q [] fun y=>[V.CC (V.cons ((V.int .i64) y.1) (V.cons ((V.int .i64) y.2) (V.unit)))]
def S_f3q : AM :=
 Ae Tryz.f13 2 0 X_f3q (fun x=>[e_TPg x.1,esl_TEv x.2]) fun l=>(d_TPg (at_ l 0),dsl_TEv (at_ l 1))
def tt_f3q (x : X_f3q) : TT Tryz.prog R_f3q :=
 (.call con_fu (x.fst,x.snd) fun (y1 : R_fu) =>
 (.ret y1.snd))
theorem sd_f3q (x : X_f3q) : (tt_f3q x).AH :=
 (TT.sC fun _=>TT.sR)
def D_f3q : AQ X_f3q R_f3q:=.of tt_f3q
def con_f3q : A3 Tryz.prog :=
 BZ 13 J_f3q S_f3q D_f3q 2 0 [sh_TPg,hsl_TEv] (lk mxk lbn sd_f3q)
abbrev X_f3j : Type:=TPg × (Sl TEv)
abbrev R_f3j : Type:=(Bx TFa) × Int
def J_f3j : A9 Tryz.prog :=
 BF Tryz.prog Tryz.f39 26 [(2,3),(9,1),(20,1),(24,1)] [] [] [.shut 4] [hbox_TFa,.any] [] [con_fu] R_f3j [] fun y=>[V.CC (V.cons (ebox_TFa y.1) (V.cons ((V.int .i64) y.2) (V.unit)))]
def S_f3j : AM :=
 Ae Tryz.f39 2 0 X_f3j (fun x=>[e_TPg x.1,esl_TEv x.2]) fun l=>(d_TPg (at_ l 0),dsl_TEv (at_ l 1))
def tt_f3j (x : X_f3j) : TT Tryz.prog R_f3j :=
 (.call con_fu (x.fst,x.snd) fun (y1 : R_fu) =>
 (.ite (AX y1.snd.snd 0)
 (.ite (BS y1.snd.fst ((x.snd.n : Nat) : Int))
 (.ret ((Bx.mk y1.fst.nil y1.fst.x),11))
 (.ret ((Bx.mk y1.fst.nil y1.fst.x),y1.snd.snd)))
 (.ret ((Bx.mk y1.fst.nil y1.fst.x),y1.snd.snd))))
theorem sd_f3j (x : X_f3j) : (tt_f3j x).AH :=
 (TT.sC fun _=>(TT.sI (TT.sI TT.sR TT.sR) TT.sR))
def D_f3j : AQ X_f3j R_f3j:=.of tt_f3j
def con_f3j : A3 Tryz.prog :=
 BZ 39 J_f3j S_f3j D_f3j 2 0 [sh_TPg,hsl_TEv] (lk mxk lbn sd_f3j)
abbrev X_f1n : Type:=Int × TFa
abbrev R_f1n : Type:=TAk × Int
abbrev RR_f1n : Type:=TAk × Int × TFa
abbrev p_f1n (y : RR_f1n) : TFa:=y.2.2
abbrev w_f1n (x : X_f1n) : TFa:=x.2
def J_f1n : A9 Tryz.prog :=
 BF Tryz.prog Tryz.f64 19 [] [] [] [] [.any,.any] [sh_TFa] [con_f19,con_f18] RR_f1n [] fun y=>[V.CC (V.cons (e_TAk y.1) (V.cons ((V.int .i64) y.2.1) (V.unit))),e_TFa y.2.2]
def S_f1n : AM :=
 Ae Tryz.f64 2 1 X_f1n (fun x=>[(V.ptr (.par 0) []),(V.int .i64) x.1,e_TFa x.2]) fun l=>(dI (at_ l 1),d_TFa (at_ l 2))
def tt_f1n (x : X_f1n) : TT Tryz.prog RR_f1n :=
 (.call con_f18 (x.fst,x.snd) fun (y1 : R_f18) =>
 (.ite (!y1)
 (.ret ((TAk.mk 0 0 0 0 0 0),(5,x.snd)))
 (.call con_f19 (x.fst,x.snd) fun (y2 : R_f19) =>
 (.ret (y2,(0,x.snd))))))
theorem sd_f1n (x : X_f1n) : (tt_f1n x).AH :=
 (TT.sC fun _=>(TT.sI TT.sR (TT.sC fun _=>TT.sR)))
theorem roT_f1n (x : X_f1n) : TT.Ro p_f1n (w_f1n x) (tt_f1n x) :=
 (TT.rC fun _=>(TT.rI (TT.rR rfl) (TT.rC fun _=>(TT.rR rfl))))
def D_f1n : AQ X_f1n R_f1n:=.ro (.of tt_f1n) (fun y=>(y.1,y.2.1)) (fun y x=>(y.1,y.2,x.2)) fun x y h=>congrArg (fun o=>(y.1,y.2.1,o)) (roT_f1n x y h)
def con_f1n : A3 Tryz.prog :=
 C3 64 J_f1n S_f1n (.of tt_f1n) D_f1n (fun y x=>(y.1,y.2,x.2)) (fun y=>V.CC (V.cons (e_TAk y.1) (V.cons ((V.int .i64) y.2) (V.unit)))) 2 1 [.any,.any] (lk mxk lbn sd_f1n) (fun x=>⟨(nu_e_TFa : ∀ y,(e_TFa y).CV) (x.2),trivial⟩)
abbrev X_fi : Type:=Int × TFa
abbrev R_fi : Type:=(Bx TRr)
abbrev RR_fi : Type:=(Bx TRr) × TFa
abbrev p_fi (y : RR_fi) : TFa:=y.2
abbrev w_fi (x : X_fi) : TFa:=x.2
def J_fi : A9 Tryz.prog :=
 BF Tryz.prog Tryz.f81 43 [(22,1),(42,1)] [(2,[.back (.loc 18 0)]),(3,[.back (.loc 18 0)]),(4,[.back (.loc 37 0),.back (.loc 34 0),.back (.loc 18 0)])] [(3,[.Ir (.par 0) [.CI 2 3] 34])] [.back (.loc 37 0),.back (.loc 34 0),.back (.loc 18 0),.shut 4] [hbox_TRr] [sh_TFa] [con_fc,con_f1u] RR_fi [(0,[⟨.loc 34 0,.par 0,[.CI 2 3],none,none⟩]),(3,[⟨.loc 34 0,.par 0,[.CI 2 3],none,none⟩])] fun y=>[ebox_TRr y.1,e_TFa y.2]
def S_fi : AM :=
 Ae Tryz.f81 2 1 X_fi (fun x=>[(V.ptr (.par 0) []),(V.int .i64) x.1,e_TFa x.2]) fun l=>(dI (at_ l 1),d_TFa (at_ l 2))
structure X_fi_3 where
 Ff : Int
 Ah : TFa
def S_fi_3 : AM :=
 Ad Tryz.f81 3 (an [0,1]) [sh_TFa] [] X_fi_3 (fun x=>[(V.ptr (.par 0) []),(V.int .i64) x.Ff,e_TFa x.Ah]) fun l=>⟨dI (at_ l 1),d_TFa (at_ l 2)⟩
abbrev w_fi_3 (x : X_fi_3) : TFa:=(x.Ah)
def tt_fi_3 (x : X_fi_3) : TT Tryz.prog RR_fi :=
 (.need (A0 x.Ff x.Ah.p.AJ.n) <|
 (.need (A0 x.Ff x.Ah.rings.n) <|
 (.need (((Nat.beq x.Ah.rings.n x.Ah.rings.n) && true) && (!(x.Ah.rings.get ((0 : Nat) + (Int.toNat x.Ff))).nil)) <|
 (.call con_f1u (x.Ah.rings.get ((0 : Nat) + (Int.toNat x.Ff))).x fun (y1 : R_f1u) =>
 (.call con_fc ((x.Ah.p.AJ.get (Int.toNat x.Ff)),y1) fun (y2 : R_fc) =>
 (.need ((true && true) && (((Nat.beq x.Ah.rings.n x.Ah.rings.n) && (Nat.blt ((0 : Nat) + (Int.toNat x.Ff)) x.Ah.rings.n)) && (!(x.Ah.rings.get ((0 : Nat) + (Int.toNat x.Ff))).nil))) <|
 (.side (((fun v : Nat → V=>v = v) (fun i3=>(cond (Nat.beq i3 ((0 : Nat) + (Int.toNat x.Ff))) (V.ptr (Id.loc 37 0) List.nil) (V.Ai (x.Ah.rings.get i3).nil (V.cons (V.cons (V.int IntKind.u64 (x.Ah.rings.get i3).x.AA.tail) (V.cons (V.A4 41 1 (x.Ah.rings.get i3).x.AA.AD.nil (x.Ah.rings.get i3).x.AA.AD.n (fun i4=>(V.int IntKind.u64 ((x.Ah.rings.get i3).x.AA.AD.get i4)))) V.unit)) (V.cons (V.Ai (x.Ah.rings.get i3).x.s.nil (V.cons (V.A4 206 3 (x.Ah.rings.get i3).x.s.x.l.nil (x.Ah.rings.get i3).x.s.x.l.n (fun i4=>(V.cons (V.int IntKind.u64 ((x.Ah.rings.get i3).x.s.x.l.get i4).AO) (V.cons (V.int IntKind.u64 ((x.Ah.rings.get i3).x.s.x.l.get i4).Value) (V.cons (V.int IntKind.i64 ((x.Ah.rings.get i3).x.s.x.l.get i4).Left) V.unit))))) (V.cons (V.int IntKind.i64 (x.Ah.rings.get i3).x.s.x.AW) V.unit))) (V.cons (V.int IntKind.u64 (x.Ah.rings.get i3).x.most) (V.cons (V.bool (x.Ah.rings.get i3).x.closed) V.unit)))))))) ∧ (((fun v : V=>v = v) (V.cons (V.cons (V.int IntKind.u64 (x.Ah.rings.get ((0 : Nat) + (Int.toNat x.Ff))).x.AA.tail) (V.cons (V.A4 41 1 (x.Ah.rings.get ((0 : Nat) + (Int.toNat x.Ff))).x.AA.AD.nil (x.Ah.rings.get ((0 : Nat) + (Int.toNat x.Ff))).x.AA.AD.n (fun i3=>(V.int IntKind.u64 ((x.Ah.rings.get ((0 : Nat) + (Int.toNat x.Ff))).x.AA.AD.get i3)))) V.unit)) (V.cons (V.Ai (x.Ah.rings.get ((0 : Nat) + (Int.toNat x.Ff))).x.s.nil (V.cons (V.A4 206 3 (x.Ah.rings.get ((0 : Nat) + (Int.toNat x.Ff))).x.s.x.l.nil (x.Ah.rings.get ((0 : Nat) + (Int.toNat x.Ff))).x.s.x.l.n (fun i3=>(V.cons (V.int IntKind.u64 ((x.Ah.rings.get ((0 : Nat) + (Int.toNat x.Ff))).x.s.x.l.get i3).AO) (V.cons (V.int IntKind.u64 ((x.Ah.rings.get ((0 : Nat) + (Int.toNat x.Ff))).x.s.x.l.get i3).Value) (V.cons (V.int IntKind.i64 ((x.Ah.rings.get ((0 : Nat) + (Int.toNat x.Ff))).x.s.x.l.get i3).Left) V.unit))))) (V.cons (V.int IntKind.i64 (x.Ah.rings.get ((0 : Nat) + (Int.toNat x.Ff))).x.s.x.AW) V.unit))) (V.cons (V.int IntKind.u64 (x.Ah.rings.get ((0 : Nat) + (Int.toNat x.Ff))).x.most) (V.cons (V.bool (x.Ah.rings.get ((0 : Nat) + (Int.toNat x.Ff))).x.closed) V.unit))))) ∧ ((fun v : V=>v = v) (V.Ai (x.Ah.rings.get ((0 : Nat) + (Int.toNat x.Ff))).nil (V.cons (V.cons (V.int IntKind.u64 (x.Ah.rings.get ((0 : Nat) + (Int.toNat x.Ff))).x.AA.tail) (V.cons (V.A4 41 1 (x.Ah.rings.get ((0 : Nat) + (Int.toNat x.Ff))).x.AA.AD.nil (x.Ah.rings.get ((0 : Nat) + (Int.toNat x.Ff))).x.AA.AD.n (fun i3=>(V.int IntKind.u64 ((x.Ah.rings.get ((0 : Nat) + (Int.toNat x.Ff))).x.AA.AD.get i3)))) V.unit)) (V.cons (V.Ai (x.Ah.rings.get ((0 : Nat) + (Int.toNat x.Ff))).x.s.nil (V.cons (V.A4 206 3 (x.Ah.rings.get ((0 : Nat) + (Int.toNat x.Ff))).x.s.x.l.nil (x.Ah.rings.get ((0 : Nat) + (Int.toNat x.Ff))).x.s.x.l.n (fun i3=>(V.cons (V.int IntKind.u64 ((x.Ah.rings.get ((0 : Nat) + (Int.toNat x.Ff))).x.s.x.l.get i3).AO) (V.cons (V.int IntKind.u64 ((x.Ah.rings.get ((0 : Nat) + (Int.toNat x.Ff))).x.s.x.l.get i3).Value) (V.cons (V.int IntKind.i64 ((x.Ah.rings.get ((0 : Nat) + (Int.toNat x.Ff))).x.s.x.l.get i3).Left) V.unit))))) (V.cons (V.int IntKind.i64 (x.Ah.rings.get ((0 : Nat) + (Int.toNat x.Ff))).x.s.x.AW) V.unit))) (V.cons (V.int IntKind.u64 (x.Ah.rings.get ((0 : Nat) + (Int.toNat x.Ff))).x.most) (V.cons (V.bool (x.Ah.rings.get ((0 : Nat) + (Int.toNat x.Ff))).x.closed) V.unit)))))))) <|
 (.need ((true && true) && (Nat.beq x.Ah.rings.n x.Ah.rings.n)) <|
 (.ret (y2.fst,x.Ah))))))))))
theorem sd_fi_3 (x : X_fi_3) : (tt_fi_3 x).AH :=
 (TT.sN (TT.sN (TT.sN (TT.sC fun _=>(TT.sC fun _=>(TT.sN (TT.sS ⟨rfl,⟨rfl,rfl⟩⟩ (TT.sN TT.sR))))))))
theorem roT_fi_3 (x : X_fi_3) : TT.Ro p_fi (w_fi_3 x) (tt_fi_3 x) :=
 (TT.rN (TT.rN (TT.rN (TT.rC fun _=>(TT.rC fun _=>(TT.rN (TT.rS (TT.rN (TT.rR rfl)))))))))
def D_fi_3 : AQ X_fi_3 RR_fi:=.of tt_fi_3
theorem ok_fi_3 : AV J_fi S_fi_3 D_fi_3 :=
 lk mxk lbn sd_fi_3
theorem ro_fi_3 : ∀ x y,D_fi_3.rel x y → p_fi y = w_fi_3 x :=
 roT_fi_3 
def tt_fi (x : X_fi) : TT Tryz.prog RR_fi :=
 (.ite (BS x.fst 0)
 (.ret ((Bx.mk true (TRr.mk (TRc.mk 0 (Sl.mk true 0 (fun _i1=>(0 : Int)))) (Bx.mk true (TSs.mk (Sl.mk true 0 (fun _i1=>(TSo.mk 0 0 0))) 0)) 0 false)),x.snd))
 (.ite (Bd ((x.snd.rings.n : Nat) : Int) x.fst)
 (.need ((true && true) && (Nat.beq x.snd.rings.n x.snd.rings.n)) <|
 (.ret ((Bx.mk true (TRr.mk (TRc.mk 0 (Sl.mk true 0 (fun _i1=>(0 : Int)))) (Bx.mk true (TSs.mk (Sl.mk true 0 (fun _i1=>(TSo.mk 0 0 0))) 0)) 0 false)),x.snd)))
 (.need ((true && true) && (Nat.beq x.snd.rings.n x.snd.rings.n)) <|
 (.jump S_fi_3 D_fi_3 (X_fi_3.mk x.fst x.snd)))))
theorem sd_fi (x : X_fi) : (tt_fi x).AH :=
 (TT.sI TT.sR (TT.sI (TT.sN TT.sR) (TT.sN TT.sJ)))
theorem roT_fi (x : X_fi) : TT.Ro p_fi (w_fi x) (tt_fi x) :=
 (TT.rI (TT.rR rfl) (TT.rI (TT.rN (TT.rR rfl)) (TT.rN (TT.rJ (ro_fi_3 _)))))
def D_fi : AQ X_fi R_fi:=.ro (.of tt_fi) (fun y=>(y.1)) (fun y x=>(y,x.2)) fun x y h=>congrArg (fun o=>(y.1,o)) (roT_fi x y h)
def con_fi : A3 Tryz.prog :=
 C3 81 J_fi S_fi (.of tt_fi) D_fi (fun y x=>(y,x.2)) (fun y=>ebox_TRr y) 2 1 [.any,.any] (lk mxk (lbc ok_fi_3 rfl lbn) sd_fi) (fun x=>⟨(nu_e_TFa : ∀ y,(e_TFa y).CV) (x.2),trivial⟩)
abbrev X_f1f : Type:=TFa
abbrev R_f1f : Type:=Int
abbrev RR_f1f : Type:=Int × TFa
abbrev p_f1f (y : RR_f1f) : TFa:=y.2
abbrev w_f1f (x : X_f1f) : TFa:=x
def J_f1f : A9 Tryz.prog :=
 BF Tryz.prog Tryz.f70 9 [] [] [] [] [.any] [sh_TFa] [] RR_f1f [] fun y=>[(V.int .u64) y.1,e_TFa y.2]
def S_f1f : AM :=
 Ae Tryz.f70 1 1 X_f1f (fun x=>[(V.ptr (.par 0) []),e_TFa x]) fun l=>(d_TFa (at_ l 1))
def tt_f1f (x : X_f1f) : TT Tryz.prog RR_f1f :=
 (.ret (x.now,x))
theorem sd_f1f (x : X_f1f) : (tt_f1f x).AH :=
 TT.sR
theorem roT_f1f (x : X_f1f) : TT.Ro p_f1f (w_f1f x) (tt_f1f x) :=
 (TT.rR rfl)
def D_f1f : AQ X_f1f R_f1f:=.ro (.of tt_f1f) (fun y=>(y.1)) (fun y x=>(y,x)) fun x y h=>congrArg (fun o=>(y.1,o)) (roT_f1f x y h)
def con_f1f : A3 Tryz.prog :=
 C3 70 J_f1f S_f1f (.of tt_f1f) D_f1f (fun y x=>(y,x)) (fun y=>(V.int .u64) y) 1 1 [.any] (lk mxk lbn sd_f1f) (fun x=>⟨(nu_e_TFa : ∀ y,(e_TFa y).CV) (x),trivial⟩)
abbrev X_f2r : Type:=Unit
abbrev R_f2r : Type:=Int
def J_f2r : A9 Tryz.prog :=
 BF Tryz.prog Tryz.f82 10 [(5,1)] [] [] [] [.any] [] [] R_f2r [] fun y=>[(V.int .u64) y]
def S_f2r : AM :=
 Ae Tryz.f82 1 0 X_f2r (fun _x=>[V.B7]) fun _l=>()
def tt_f2r (_x : X_f2r) : TT Tryz.prog R_f2r :=
 (.ret 0)
theorem sd_f2r (x : X_f2r) : (tt_f2r x).AH :=
 TT.sR
def D_f2r : AQ X_f2r R_f2r:=.of tt_f2r
def con_f2r : A3 Tryz.prog :=
 BZ 82 J_f2r S_f2r D_f2r 1 0 [.any] (lk mxk lbn sd_f2r)
abbrev X_f1a : Type:=Int
abbrev R_f1a : Type:=Int
def J_f1a : A9 Tryz.prog :=
 BF Tryz.prog Tryz.f83 23 [(15,1)] [] [] [.close (.loc 19 0)] [.any] [] [con_fw] R_f1a [] fun y=>[(V.int .u64) y]
def S_f1a : AM :=
 Ae Tryz.f83 2 0 X_f1a (fun x=>[V.B7,(V.int .i64) x]) fun l=>(dI (at_ l 1))
structure X_f1a_3 where
 Ed : Int
def S_f1a_3 : AM :=
 Ad Tryz.f83 3 (an [0,1]) [] [] X_f1a_3 (fun x=>[V.B7,(V.int .i64) x.Ed]) fun l=>⟨dI (at_ l 1)⟩
def tt_f1a_3 (_x : X_f1a_3) : TT Tryz.prog R_f1a :=
 .fail
theorem sd_f1a_3 (x : X_f1a_3) : (tt_f1a_3 x).AH :=
 TT.Oz
def D_f1a_3 : AQ X_f1a_3 R_f1a:=.of tt_f1a_3
theorem ok_f1a_3 : AV J_f1a S_f1a_3 D_f1a_3 :=
 lk mxk lbn sd_f1a_3
def tt_f1a (_x : X_f1a) : TT Tryz.prog R_f1a :=
 (.ret 0)
theorem sd_f1a (x : X_f1a) : (tt_f1a x).AH :=
 TT.sR
def D_f1a : AQ X_f1a R_f1a:=.of tt_f1a
def con_f1a : A3 Tryz.prog :=
 BZ 83 J_f1a S_f1a D_f1a 2 0 [.any,.any] (lk mxk (lbc ok_f1a_3 rfl lbn) sd_f1a)
abbrev X_f14 : Type:=Int × Int × TFa
abbrev R_f14 : Type:=TEv
abbrev RR_f14 : Type:=TEv × TFa
abbrev p_f14 (y : RR_f14) : TFa:=y.2
abbrev w_f14 (x : X_f14) : TFa:=x.2.2
def J_f14 : A9 Tryz.prog :=
 BF Tryz.prog Tryz.f44 75 [(11,1),(46,1),(57,1)] [(6,[.Qf 10,.open_ 10]),(9,[.open_ 10])] [] [] [.any] [sh_TFa] [con_f2v,con_f1n,con_f1f,con_fi,con_fq,con_f1r,con_f1a,con_f2r] RR_f14 [] fun y=>[e_TEv y.1,e_TFa y.2]
def S_f14 : AM :=
 Ae Tryz.f44 3 1 X_f14 (fun x=>[(V.ptr (.par 0) []),(V.int .i64) x.1,(V.int .i64) x.2.1,e_TFa x.2.2]) fun l=>(dI (at_ l 1),dI (at_ l 2),d_TFa (at_ l 3))
structure X_f14_5 where
 Cm : Int
 Ah : TFa
 HX : TEv
 HF : TAk
 Cf : TEv
def S_f14_5 : AM :=
 Ad Tryz.f44 5 (an [0,2,6,7,9]) [sh_TFa] [(.loc 6 0,.any),(.loc 7 0,.any),(.loc 9 0,.any)] X_f14_5 (fun x=>[(V.ptr (.par 0) []),(V.int .i64) x.Cm,(V.ptr (.loc 6 0) []),(V.ptr (.loc 7 0) []),(V.ptr (.loc 9 0) []),e_TFa x.Ah,e_TEv x.HX,e_TAk x.HF,e_TEv x.Cf]) fun l=>⟨dI (at_ l 1),d_TFa (at_ l 5),d_TEv (at_ l 6),d_TAk (at_ l 7),d_TEv (at_ l 8)⟩
abbrev w_f14_5 (x : X_f14_5) : TFa:=(x.Ah)
def tt_f14_5 (x : X_f14_5) : TT Tryz.prog RR_f14 :=
 (.call con_fi (x.HF.Ring,x.Ah) fun (y1 : R_fi) =>
 (.ite y1.nil
 (.ite (AX x.Cm 2)
 (.ret ((TEv.mk x.Cf.Thread x.Cf.Kind x.Cf.Ring x.HF.AG x.Cf.Value),x.Ah))
 (.ite (AX x.Cm 4)
 (.ret ((TEv.mk x.Cf.Thread x.Cf.Kind x.Cf.Ring x.HF.AG x.Cf.Value),x.Ah))
 (.ite (AX x.Cm 1)
 (.call con_f2r PUnit.unit fun (y2 : R_f2r) =>
 (.ret ((TEv.mk x.Cf.Thread x.Cf.Kind x.Cf.Ring y2 x.Cf.Value),x.Ah)))
 (.ite (AX x.Cm 13)
 (.call con_f2r PUnit.unit fun (y2 : R_f2r) =>
 (.ret ((TEv.mk x.Cf.Thread x.Cf.Kind x.Cf.Ring y2 x.Cf.Value),x.Ah)))
 (.ite (AX x.Cm 3)
 (.ite (AX x.HF.Kind 2)
 (.call con_f1a x.HF.Reader fun (y2 : R_f1a) =>
 (.ret ((TEv.mk x.Cf.Thread x.Cf.Kind x.Cf.Ring y2 x.Cf.Value),x.Ah)))
 (.ite (AX x.Cm 8)
 (.call con_f1f x.Ah fun (y2 : R_f1f) =>
 (.ret ((TEv.mk x.Cf.Thread x.Cf.Kind x.Cf.Ring x.Cf.AG y2),x.Ah)))
 (.ite (AX x.Cm 12)
 (.ret ((TEv.mk x.Cf.Thread x.Cf.Kind x.Cf.Ring x.Cf.AG x.HF.Value),x.Ah))
 (.ret (x.Cf,x.Ah)))))
 (.ite (AX x.Cm 8)
 (.call con_f1f x.Ah fun (y2 : R_f1f) =>
 (.ret ((TEv.mk x.Cf.Thread x.Cf.Kind x.Cf.Ring x.Cf.AG y2),x.Ah)))
 (.ite (AX x.Cm 12)
 (.ret ((TEv.mk x.Cf.Thread x.Cf.Kind x.Cf.Ring x.Cf.AG x.HF.Value),x.Ah))
 (.ret (x.Cf,x.Ah)))))))))
 (.need (!y1.nil) <|
 (.ite (AX x.Cm 2)
 (.ret ((TEv.mk x.Cf.Thread x.Cf.Kind x.Cf.Ring x.HF.AG x.Cf.Value),x.Ah))
 (.ite (AX x.Cm 4)
 (.ret ((TEv.mk x.Cf.Thread x.Cf.Kind x.Cf.Ring x.HF.AG x.Cf.Value),x.Ah))
 (.ite (AX x.Cm 1)
 (.call con_f1r y1.x fun (y2 : R_f1r) =>
 (.ret ((TEv.mk x.Cf.Thread x.Cf.Kind x.Cf.Ring y2 x.Cf.Value),x.Ah)))
 (.ite (AX x.Cm 13)
 (.call con_f1r y1.x fun (y2 : R_f1r) =>
 (.ret ((TEv.mk x.Cf.Thread x.Cf.Kind x.Cf.Ring y2 x.Cf.Value),x.Ah)))
 (.ite (AX x.Cm 3)
 (.ite (AX x.HF.Kind 2)
 (.call con_fq (x.HF.Reader,y1.x) fun (y2 : R_fq) =>
 (.ret ((TEv.mk x.Cf.Thread x.Cf.Kind x.Cf.Ring y2 x.Cf.Value),x.Ah)))
 (.ite (AX x.Cm 8)
 (.call con_f1f x.Ah fun (y2 : R_f1f) =>
 (.ret ((TEv.mk x.Cf.Thread x.Cf.Kind x.Cf.Ring x.Cf.AG y2),x.Ah)))
 (.ite (AX x.Cm 12)
 (.ret ((TEv.mk x.Cf.Thread x.Cf.Kind x.Cf.Ring x.Cf.AG x.HF.Value),x.Ah))
 (.ret (x.Cf,x.Ah)))))
 (.ite (AX x.Cm 8)
 (.call con_f1f x.Ah fun (y2 : R_f1f) =>
 (.ret ((TEv.mk x.Cf.Thread x.Cf.Kind x.Cf.Ring x.Cf.AG y2),x.Ah)))
 (.ite (AX x.Cm 12)
 (.ret ((TEv.mk x.Cf.Thread x.Cf.Kind x.Cf.Ring x.Cf.AG x.HF.Value),x.Ah))
 (.ret (x.Cf,x.Ah))))))))))))
theorem sd_f14_5 (x : X_f14_5) : (tt_f14_5 x).AH :=
 (TT.sC fun _=>(TT.sI (TT.sI TT.sR (TT.sI TT.sR (TT.sI (TT.sC fun _=>TT.sR) (TT.sI (TT.sC fun _=>TT.sR) (TT.sI (TT.sI (TT.sC fun _=>TT.sR) (TT.sI (TT.sC fun _=>TT.sR) (TT.sI TT.sR TT.sR))) (TT.sI (TT.sC fun _=>TT.sR) (TT.sI TT.sR TT.sR))))))) (TT.sN (TT.sI TT.sR (TT.sI TT.sR (TT.sI (TT.sC fun _=>TT.sR) (TT.sI (TT.sC fun _=>TT.sR) (TT.sI (TT.sI (TT.sC fun _=>TT.sR) (TT.sI (TT.sC fun _=>TT.sR) (TT.sI TT.sR TT.sR))) (TT.sI (TT.sC fun _=>TT.sR) (TT.sI TT.sR TT.sR))))))))))
theorem roT_f14_5 (x : X_f14_5) : TT.Ro p_f14 (w_f14_5 x) (tt_f14_5 x) :=
 (TT.rC fun _=>(TT.rI (TT.rI (TT.rR rfl) (TT.rI (TT.rR rfl) (TT.rI (TT.rC fun _=>(TT.rR rfl)) (TT.rI (TT.rC fun _=>(TT.rR rfl)) (TT.rI (TT.rI (TT.rC fun _=>(TT.rR rfl)) (TT.rI (TT.rC fun _=>(TT.rR rfl)) (TT.rI (TT.rR rfl) (TT.rR rfl)))) (TT.rI (TT.rC fun _=>(TT.rR rfl)) (TT.rI (TT.rR rfl) (TT.rR rfl)))))))) (TT.rN (TT.rI (TT.rR rfl) (TT.rI (TT.rR rfl) (TT.rI (TT.rC fun _=>(TT.rR rfl)) (TT.rI (TT.rC fun _=>(TT.rR rfl)) (TT.rI (TT.rI (TT.rC fun _=>(TT.rR rfl)) (TT.rI (TT.rC fun _=>(TT.rR rfl)) (TT.rI (TT.rR rfl) (TT.rR rfl)))) (TT.rI (TT.rC fun _=>(TT.rR rfl)) (TT.rI (TT.rR rfl) (TT.rR rfl)))))))))))
def D_f14_5 : AQ X_f14_5 RR_f14:=.of tt_f14_5
theorem ok_f14_5 : AV J_f14 S_f14_5 D_f14_5 :=
 lk mxk lbn sd_f14_5
theorem ro_f14_5 : ∀ x y,D_f14_5.rel x y → p_f14 y = w_f14_5 x :=
 roT_f14_5 
def tt_f14 (x : X_f14) : TT Tryz.prog RR_f14 :=
 (.call con_f1n (x.fst,x.snd.snd) fun (y1 : R_f1n) =>
 (.call con_f2v x.snd.fst fun (y2 : R_f2v) =>
 (.ite y2
 (.jump S_f14_5 D_f14_5 (X_f14_5.mk x.snd.fst x.snd.snd (TEv.mk 0 0 0 0 0) y1.fst (TEv.mk x.fst x.snd.fst y1.fst.Ring 0 0)))
 (.jump S_f14_5 D_f14_5 (X_f14_5.mk x.snd.fst x.snd.snd (TEv.mk 0 0 0 0 0) y1.fst (TEv.mk x.fst x.snd.fst 0 0 0))))))
theorem sd_f14 (x : X_f14) : (tt_f14 x).AH :=
 (TT.sC fun _=>(TT.sC fun _=>(TT.sI TT.sJ TT.sJ)))
theorem roT_f14 (x : X_f14) : TT.Ro p_f14 (w_f14 x) (tt_f14 x) :=
 (TT.rC fun _=>(TT.rC fun _=>(TT.rI (TT.rJ (ro_f14_5 _)) (TT.rJ (ro_f14_5 _)))))
def D_f14 : AQ X_f14 R_f14:=.ro (.of tt_f14) (fun y=>(y.1)) (fun y x=>(y,x.2.2)) fun x y h=>congrArg (fun o=>(y.1,o)) (roT_f14 x y h)
def con_f14 : A3 Tryz.prog :=
 C3 44 J_f14 S_f14 (.of tt_f14) D_f14 (fun y x=>(y,x.2.2)) (fun y=>e_TEv y) 3 1 [.any,.any,.any] (lk mxk (lbc ok_f14_5 rfl lbn) sd_f14) (fun x=>⟨(nu_e_TFa : ∀ y,(e_TFa y).CV) (x.2.2),trivial⟩)
abbrev QA : Type:=(Sl Int)
def DD : QA → V:=(LA none 1 (V.int .i64))
def EV : V → QA:=(LX dI)
def Dc : Sh:=(.sl none 1 (V.int .i64 0))
abbrev OW : Type:=(Sl Int)
def OB : OW → V:=(LA (some 3) 1 (V.int .i64))
def OG : V → OW:=(LX dI)
def Nz : Sh:=(.sl (some 3) 1 (V.int .i64 0))
abbrev X_ff : Type:=Int × TFa
abbrev R_ff : Type:=(Sl Int)
abbrev RR_ff : Type:=(Sl Int) × TFa
abbrev p_ff (y : RR_ff) : TFa:=y.2
abbrev w_ff (x : X_ff) : TFa:=x.2
def J_ff : A9 Tryz.prog :=
 BF Tryz.prog Tryz.f40 22 [(17,1),(21,1)] [] [] [.shut 4] [Dc] [sh_TFa] [con_fe,con_f14] RR_ff [] fun y=>[DD y.1,e_TFa y.2]
def S_ff : AM :=
 Ae Tryz.f40 2 1 X_ff (fun x=>[(V.ptr (.par 0) []),(V.int .i64) x.1,e_TFa x.2]) fun l=>(dI (at_ l 1),d_TFa (at_ l 2))
structure X_ff_3 where
 T3 : Int
 RI : (Sl Int)
 E3 : Int
 Ah : TFa
def S_ff_3 : AM :=
 Ad Tryz.f40 3 [(0,.any),(1,.any),(5,Nz),(6,.any)] [sh_TFa] [] X_ff_3 (fun x=>[(V.ptr (.par 0) []),(V.int .i64) x.T3,OB x.RI,(V.int .i64) x.E3,e_TFa x.Ah]) fun l=>⟨dI (at_ l 1),OG (at_ l 2),dI (at_ l 3),d_TFa (at_ l 4)⟩
structure X_ff_4 where
 T3 : Int
 RI : (Sl Int)
 E3 : Int
 Ah : TFa
def S_ff_4 : AM :=
 Ad Tryz.f40 4 [(0,.any),(1,.any),(5,Nz),(6,.any)] [sh_TFa] [] X_ff_4 (fun x=>[(V.ptr (.par 0) []),(V.int .i64) x.T3,OB x.RI,(V.int .i64) x.E3,e_TFa x.Ah]) fun l=>⟨dI (at_ l 1),OG (at_ l 2),dI (at_ l 3),d_TFa (at_ l 4)⟩
abbrev w_ff_3 (x : X_ff_3) : TFa:=(x.Ah)
abbrev w_ff_4 (x : X_ff_4) : TFa:=(x.Ah)
def tt_ff_4 (D_ff_3 : AQ X_ff_3 RR_ff) (x : X_ff_4) : TT Tryz.prog RR_ff :=
 (.jump S_ff_3 D_ff_3 (X_ff_3.mk x.T3 x.RI (IntKind.i64.wrap (x.E3 + 1)) x.Ah))
theorem sd_ff_4 (D_ff_3 : AQ X_ff_3 RR_ff) (x : X_ff_4) : (tt_ff_4 D_ff_3 x).AH :=
 TT.sJ
theorem roT_ff_4 (D_ff_3 : AQ X_ff_3 RR_ff) (r3 : ∀ x y,D_ff_3.rel x y → p_ff y = w_ff_3 x) (x : X_ff_4) : TT.Ro p_ff (w_ff_4 x) (tt_ff_4 D_ff_3 x) :=
 (TT.rJ (r3 _))
def D_ff_4 (D_ff_3 : AQ X_ff_3 RR_ff) : AQ X_ff_4 RR_ff:=.of (tt_ff_4 D_ff_3)
theorem ok_ff_4 (D_ff_3 : AQ X_ff_3 RR_ff) (h_3 : AV J_ff S_ff_3 D_ff_3) : AV J_ff S_ff_4 (D_ff_4 D_ff_3) :=
 lk mxk (lbc h_3 rfl lbn) (sd_ff_4 D_ff_3)
theorem ro_ff_4 (D_ff_3 : AQ X_ff_3 RR_ff) (r3 : ∀ x y,D_ff_3.rel x y → p_ff y = w_ff_3 x) : ∀ x y,(D_ff_4 D_ff_3).rel x y → p_ff y = w_ff_4 x :=
 roT_ff_4 D_ff_3 r3
def tt_ff_3 (D_ff_3 : AQ X_ff_3 RR_ff) (x : X_ff_3) : TT Tryz.prog RR_ff :=
 (.ite (Bd x.E3 15)
 (.call con_f14 (x.T3,(x.E3,x.Ah)) fun (y2 : R_f14) =>
 (.call con_fe (y2,x.Ah) fun (y3 : R_fe) =>
 (.ite y3
 (.need (true && (room (x.RI.n + 1) 8)) <|
 (.jump S_ff_4 (D_ff_4 D_ff_3) (X_ff_4.mk x.T3 (Sl.mk (cond (Nat.beq 1 0) x.RI.nil false) (x.RI.n + 1) (fun i4=>(cond (Nat.blt i4 x.RI.n) (x.RI.get i4) x.E3))) x.E3 x.Ah)))
 (.jump S_ff_4 (D_ff_4 D_ff_3) (X_ff_4.mk x.T3 x.RI x.E3 x.Ah)))))
 (.ret (x.RI,x.Ah)))
theorem sd_ff_3 (D_ff_3 : AQ X_ff_3 RR_ff) (x : X_ff_3) : (tt_ff_3 D_ff_3 x).AH :=
 (TT.sI (TT.sC fun _=>(TT.sC fun _=>(TT.sI (TT.sN TT.sJ) TT.sJ))) TT.sR)
theorem roT_ff_3 (D_ff_3 : AQ X_ff_3 RR_ff) (r3 : ∀ x y,D_ff_3.rel x y → p_ff y = w_ff_3 x) (x : X_ff_3) : TT.Ro p_ff (w_ff_3 x) (tt_ff_3 D_ff_3 x) :=
 (TT.rI (TT.rC fun _=>(TT.rC fun _=>(TT.rI (TT.rN (TT.rJ (ro_ff_4 D_ff_3 r3 _))) (TT.rJ (ro_ff_4 D_ff_3 r3 _))))) (TT.rR rfl))
def D_ff_3 : AQ X_ff_3 RR_ff:=AQ.loop tt_ff_3
theorem ok_ff_3 : AV J_ff S_ff_3 D_ff_3 :=
 Az fun D_ff_3 h_3=>lk mxk (lbc h_3 rfl (lbc (ok_ff_4 D_ff_3 h_3) rfl lbn)) (sd_ff_3 D_ff_3)
theorem ro_ff_3 : ∀ x y,D_ff_3.rel x y → p_ff y = w_ff_3 x :=
 Ju fun D_ff_3 r3=>roT_ff_3 D_ff_3 r3
def tt_ff (x : X_ff) : TT Tryz.prog RR_ff :=
 (.jump S_ff_3 D_ff_3 (X_ff_3.mk x.fst (Sl.mk true 0 (fun _i1=>(0 : Int))) 1 x.snd))
theorem sd_ff (x : X_ff) : (tt_ff x).AH :=
 TT.sJ
theorem roT_ff (x : X_ff) : TT.Ro p_ff (w_ff x) (tt_ff x) :=
 (TT.rJ (ro_ff_3 _))
def D_ff : AQ X_ff R_ff:=.ro (.of tt_ff) (fun y=>(y.1)) (fun y x=>(y,x.2)) fun x y h=>congrArg (fun o=>(y.1,o)) (roT_ff x y h)
def con_ff : A3 Tryz.prog :=
 C3 40 J_ff S_ff (.of tt_ff) D_ff (fun y x=>(y,x.2)) (fun y=>DD y) 2 1 [.any,.any] (lk mxk (lbc ok_ff_3 rfl lbn) sd_ff) (fun x=>⟨(nu_e_TFa : ∀ y,(e_TFa y).CV) (x.2),trivial⟩)
abbrev X_f2e : Type:=TPg × (Sl TEv) × Int
abbrev R_f2e : Type:=(Sl Int) × Int
def J_f2e : A9 Tryz.prog :=
 BF Tryz.prog Tryz.f17 31 [(3,3),(10,1),(12,1),(28,1)] [(6,[.open_ 8])] [] [.shut 6] [Dc,.any] [] [con_ff,con_f3j] R_f2e [] fun y=>[V.CC (V.cons (DD y.1) (V.cons ((V.int .i64) y.2) (V.unit)))]
def S_f2e : AM :=
 Ae Tryz.f17 3 0 X_f2e (fun x=>[e_TPg x.1,esl_TEv x.2.1,(V.int .i64) x.2.2]) fun l=>(d_TPg (at_ l 0),dsl_TEv (at_ l 1),dI (at_ l 2))
structure X_f2e_6 where
 Jf : Int
 WH : TFa
def S_f2e_6 : AM :=
 Ad Tryz.f17 6 (an [2,8]) [] [(.loc 8 1,sh_TFa)] X_f2e_6 (fun x=>[(V.int .i64) x.Jf,(V.ptr (.loc 8 1) []),e_TFa x.WH]) fun l=>⟨dI (at_ l 0),d_TFa (at_ l 2)⟩
def tt_f2e_6 (x : X_f2e_6) : TT Tryz.prog R_f2e :=
 (.call con_ff (x.Jf,x.WH) fun (y1 : R_ff) =>
 (.ret (y1,0)))
theorem sd_f2e_6 (x : X_f2e_6) : (tt_f2e_6 x).AH :=
 (TT.sC fun _=>TT.sR)
def D_f2e_6 : AQ X_f2e_6 R_f2e:=.of tt_f2e_6
theorem ok_f2e_6 : AV J_f2e S_f2e_6 D_f2e_6 :=
 lk mxk lbn sd_f2e_6
def tt_f2e (x : X_f2e) : TT Tryz.prog R_f2e :=
 (.call con_f3j (x.fst,x.snd.fst) fun (y1 : R_f3j) =>
 (.ite (!(AX y1.snd 0))
 (.ret ((Sl.mk true 0 (fun _i2=>(0 : Int))),y1.snd))
 (.ite (BS x.snd.snd 0)
 (.ret ((Sl.mk true 0 (fun _i2=>(0 : Int))),5))
 (.ite (Bd ((x.fst.AB.n : Nat) : Int) x.snd.snd)
 (.ret ((Sl.mk true 0 (fun _i2=>(0 : Int))),5))
 (.need (!y1.fst.nil) <|
 (.jump S_f2e_6 D_f2e_6 (X_f2e_6.mk x.snd.snd y1.fst.x)))))))
theorem sd_f2e (x : X_f2e) : (tt_f2e x).AH :=
 (TT.sC fun _=>(TT.sI TT.sR (TT.sI TT.sR (TT.sI TT.sR (TT.sN TT.sJ)))))
def D_f2e : AQ X_f2e R_f2e:=.of tt_f2e
def con_f2e : A3 Tryz.prog :=
 BZ 17 J_f2e S_f2e D_f2e 3 0 [sh_TPg,hsl_TEv,.any] (lk mxk (lbc ok_f2e_6 rfl lbn) sd_f2e)
abbrev X_f1s : Type:=Int
abbrev R_f1s : Type:=ByteArray
def J_f1s : A9 Tryz.prog :=
 BF Tryz.prog Tryz.f164 15 [] [] [] [] [.any] [] [] R_f1s [] fun y=>[V.str y]
def S_f1s : AM :=
 Ae Tryz.f164 1 0 X_f1s (fun x=>[(V.int .i64) x]) fun l=>(dI (at_ l 0))
def tt_f1s (x : X_f1s) : TT Tryz.prog R_f1s :=
 (.ite (BS x 10)
 (.need ((upto (IntKind.i64.wrap (x + 1)) (ByteArray.size (ByteArray.mk #[48,49,50,51,52,53,54,55,56,57,97,98,99,100,101,102,103,104,105,106,107,108,109,110,111,112,113,114,115,116,117,118,119,120,121,122]))) && (upto x (Int.toNat (IntKind.i64.wrap (x + 1))))) <|
 (.ret (ByteArray.extract (ByteArray.mk #[48,49,50,51,52,53,54,55,56,57,97,98,99,100,101,102,103,104,105,106,107,108,109,110,111,112,113,114,115,116,117,118,119,120,121,122]) (Int.toNat x) (Int.toNat (IntKind.i64.wrap (x + 1))))))
 (.need ((upto (IntKind.i64.wrap ((IntKind.i64.wrap (x * 2)) + 2)) (ByteArray.size (ByteArray.mk #[48,48,48,49,48,50,48,51,48,52,48,53,48,54,48,55,48,56,48,57,49,48,49,49,49,50,49,51,49,52,49,53,49,54,49,55,49,56,49,57,50,48,50,49,50,50,50,51,50,52,50,53,50,54,50,55,50,56,50,57,51,48,51,49,51,50,51,51,51,52,51,53,51,54,51,55,51,56,51,57,52,48,52,49,52,50,52,51,52,52,52,53,52,54,52,55,52,56,52,57,53,48,53,49,53,50,53,51,53,52,53,53,53,54,53,55,53,56,53,57,54,48,54,49,54,50,54,51,54,52,54,53,54,54,54,55,54,56,54,57,55,48,55,49,55,50,55,51,55,52,55,53,55,54,55,55,55,56,55,57,56,48,56,49,56,50,56,51,56,52,56,53,56,54,56,55,56,56,56,57,57,48,57,49,57,50,57,51,57,52,57,53,57,54,57,55,57,56,57,57]))) && (upto (IntKind.i64.wrap (x * 2)) (Int.toNat (IntKind.i64.wrap ((IntKind.i64.wrap (x * 2)) + 2))))) <|
 (.ret (ByteArray.extract (ByteArray.mk #[48,48,48,49,48,50,48,51,48,52,48,53,48,54,48,55,48,56,48,57,49,48,49,49,49,50,49,51,49,52,49,53,49,54,49,55,49,56,49,57,50,48,50,49,50,50,50,51,50,52,50,53,50,54,50,55,50,56,50,57,51,48,51,49,51,50,51,51,51,52,51,53,51,54,51,55,51,56,51,57,52,48,52,49,52,50,52,51,52,52,52,53,52,54,52,55,52,56,52,57,53,48,53,49,53,50,53,51,53,52,53,53,53,54,53,55,53,56,53,57,54,48,54,49,54,50,54,51,54,52,54,53,54,54,54,55,54,56,54,57,55,48,55,49,55,50,55,51,55,52,55,53,55,54,55,55,55,56,55,57,56,48,56,49,56,50,56,51,56,52,56,53,56,54,56,55,56,56,56,57,57,48,57,49,57,50,57,51,57,52,57,53,57,54,57,55,57,56,57,57]) (Int.toNat (IntKind.i64.wrap (x * 2))) (Int.toNat (IntKind.i64.wrap ((IntKind.i64.wrap (x * 2)) + 2)))))))
theorem sd_f1s (x : X_f1s) : (tt_f1s x).AH :=
 (TT.sI (TT.sN TT.sR) (TT.sN TT.sR))
def D_f1s : AQ X_f1s R_f1s:=.of tt_f1s
def con_f1s : A3 Tryz.prog :=
 BZ 164 J_f1s S_f1s D_f1s 1 0 [.any] (lk mxk lbn sd_f1s)
abbrev X_fa : Type:=Int × Int
abbrev R_fa : Type:=ByteArray
def J_fa : A9 Tryz.prog :=
 BF Tryz.prog Tryz.f134 54 [(44,1)] [] [] [] [.any] [] [con_f1s] R_fa [] fun y=>[V.str y]
def S_fa : AM :=
 Ae Tryz.f134 2 0 X_fa (fun x=>[(V.int .i64) x.1,(V.int .i64) x.2]) fun l=>(dI (at_ l 0),dI (at_ l 1))
structure X_fa_4 where
 T7 : Int
def S_fa_4 : AM :=
 Ad Tryz.f134 4 [(0,.any)] [] [] X_fa_4 (fun x=>[(V.int .i64) x.T7]) fun l=>⟨dI (at_ l 0)⟩
structure X_fa_8 where
 T7 : Int
 u_6 : Int
 BA : (Nat → Int)
def S_fa_8 : AM :=
 Ad Tryz.f134 8 (an [0,5,6]) [] [(.loc 5 0,.any)] X_fa_8 (fun x=>[(V.int .i64) x.T7,(V.ptr (.loc 5 0) []),(V.int .u64) x.u_6,(Sa 1 24 (V.int .u8)) x.BA]) fun l=>⟨dI (at_ l 0),dI (at_ l 2),(U6 dI) (at_ l 3)⟩
def tt_fa_8 (_x : X_fa_8) : TT Tryz.prog R_fa :=
 .fail
theorem sd_fa_8 (x : X_fa_8) : (tt_fa_8 x).AH :=
 TT.Oz
def D_fa_8 : AQ X_fa_8 R_fa:=.of tt_fa_8
theorem ok_fa_8 : AV J_fa S_fa_8 D_fa_8 :=
 lk mxk lbn sd_fa_8
def tt_fa_4 (x : X_fa_4) : TT Tryz.prog R_fa :=
 (.ite (BS x.T7 0)
 (.jump S_fa_8 D_fa_8 (X_fa_8.mk x.T7 (IntKind.u64.wrap ((0 : Int) - (IntKind.u64.wrap x.T7))) (fun _i1=>(0 : Int))))
 (.jump S_fa_8 D_fa_8 (X_fa_8.mk x.T7 (IntKind.u64.wrap x.T7) (fun _i1=>(0 : Int)))))
theorem sd_fa_4 (x : X_fa_4) : (tt_fa_4 x).AH :=
 (TT.sI TT.sJ TT.sJ)
def D_fa_4 : AQ X_fa_4 R_fa:=.of tt_fa_4
theorem ok_fa_4 : AV J_fa S_fa_4 D_fa_4 :=
 lk mxk (lbc ok_fa_8 rfl lbn) sd_fa_4
def tt_fa (x : X_fa) : TT Tryz.prog R_fa :=
 (.need (AX x.snd 10) <|
 (.ite (Bd 0 x.fst)
 (.ite (BS x.fst 100)
 (.call con_f1s x.fst fun (y1 : R_f1s) =>
 (.ret y1))
 (.jump S_fa_4 D_fa_4 (X_fa_4.mk x.fst)))
 (.jump S_fa_4 D_fa_4 (X_fa_4.mk x.fst))))
theorem sd_fa (x : X_fa) : (tt_fa x).AH :=
 (TT.sN (TT.sI (TT.sI (TT.sC fun _=>TT.sR) TT.sJ) TT.sJ))
def D_fa : AQ X_fa R_fa:=.of tt_fa
def con_fa : A3 Tryz.prog :=
 BZ 134 J_fa S_fa D_fa 2 0 [.any,.any] (lk mxk (lbc ok_fa_8 rfl (lbc ok_fa_4 rfl lbn)) sd_fa)
abbrev X_f2a : Type:=Int
abbrev R_f2a : Type:=ByteArray
def J_f2a : A9 Tryz.prog :=
 BF Tryz.prog Tryz.f87 5 [] [] [] [] [.any] [] [con_fa] R_f2a [] fun y=>[V.str y]
def S_f2a : AM :=
 Ae Tryz.f87 1 0 X_f2a (fun x=>[(V.int .i64) x]) fun l=>(dI (at_ l 0))
def tt_f2a (x : X_f2a) : TT Tryz.prog R_f2a :=
 (.call con_fa (x,10) fun (y1 : R_fa) =>
 (.ret y1))
theorem sd_f2a (x : X_f2a) : (tt_f2a x).AH :=
 (TT.sC fun _=>TT.sR)
def D_f2a : AQ X_f2a R_f2a:=.of tt_f2a
def con_f2a : A3 Tryz.prog :=
 BZ 87 J_f2a S_f2a D_f2a 1 0 [.any] (lk mxk lbn sd_f2a)
abbrev X_f3b : Type:=Int
abbrev R_f3b : Type:=ByteArray
def J_f3b : A9 Tryz.prog :=
 BF Tryz.prog Tryz.f47 5 [] [] [] [] [.any] [] [con_f2a] R_f3b [] fun y=>[V.str y]
def S_f3b : AM :=
 Ae Tryz.f47 1 0 X_f3b (fun x=>[(V.int .i64) x]) fun l=>(dI (at_ l 0))
def tt_f3b (x : X_f3b) : TT Tryz.prog R_f3b :=
 (.call con_f2a x fun (y1 : R_f2a) =>
 (.ret y1))
theorem sd_f3b (x : X_f3b) : (tt_f3b x).AH :=
 (TT.sC fun _=>TT.sR)
def D_f3b : AQ X_f3b R_f3b:=.of tt_f3b
def con_f3b : A3 Tryz.prog :=
 BZ 47 J_f3b S_f3b D_f3b 1 0 [.any] (lk mxk lbn sd_f3b)
abbrev X_f1k : Type:=Int × Int
abbrev R_f1k : Type:=ByteArray
def J_f1k : A9 Tryz.prog :=
 BF Tryz.prog Tryz.f163 32 [(25,1)] [] [] [] [.any] [] [con_f1s] R_f1k [] fun y=>[V.str y]
def S_f1k : AM :=
 Ae Tryz.f163 2 0 X_f1k (fun x=>[(V.int .u64) x.1,(V.int .i64) x.2]) fun l=>(dI (at_ l 0),dI (at_ l 1))
def tt_f1k (x : X_f1k) : TT Tryz.prog R_f1k :=
 (.need (AX x.snd 10) <|
 (.need (BS x.fst 100) <|
 (.call con_f1s (IntKind.i64.wrap x.fst) fun (y1 : R_f1s) =>
 (.ret y1))))
theorem sd_f1k (x : X_f1k) : (tt_f1k x).AH :=
 (TT.sN (TT.sN (TT.sC fun _=>TT.sR)))
def D_f1k : AQ X_f1k R_f1k:=.of tt_f1k
def con_f1k : A3 Tryz.prog :=
 BZ 163 J_f1k S_f1k D_f1k 2 0 [.any,.any] (lk mxk lbn sd_f1k)
abbrev X_f2i : Type:=Int × Int
abbrev R_f2i : Type:=ByteArray
def J_f2i : A9 Tryz.prog :=
 BF Tryz.prog Tryz.f132 8 [] [] [] [] [.any] [] [con_f1k] R_f2i [] fun y=>[V.str y]
def S_f2i : AM :=
 Ae Tryz.f132 2 0 X_f2i (fun x=>[(V.int .u64) x.1,(V.int .i64) x.2]) fun l=>(dI (at_ l 0),dI (at_ l 1))
def tt_f2i (x : X_f2i) : TT Tryz.prog R_f2i :=
 (.call con_f1k x fun (y1 : R_f1k) =>
 (.ret y1))
theorem sd_f2i (x : X_f2i) : (tt_f2i x).AH :=
 (TT.sC fun _=>TT.sR)
def D_f2i : AQ X_f2i R_f2i:=.of tt_f2i
def con_f2i : A3 Tryz.prog :=
 BZ 132 J_f2i S_f2i D_f2i 2 0 [.any,.any] (lk mxk lbn sd_f2i)
abbrev X_f4k : Type:=(Sl ByteArray) × ByteArray
abbrev R_f4k : Type:=ByteArray
def Rl : Go.Shelf.Ren:=⟨fun | 156=>48 | 165=>88 | 166=>89 | 169=>90 | 240=>135 | 241=>136 | 276=>168 | 277=>169 | n=>n,fun | 0=>0 | 3=>3 | 4=>4 | 5=>5 | 9=>9 | 20=>20 | 31=>93 | 37=>141 | 70=>140 | 72=>143 | 75=>146 | 76=>147 | 80=>149 | 127=>199 | 164=>234 | n=>n,fun n=>n⟩
theorem Tc : Go.Proofs.Lays.n156 Tryz.prog Rl:=by
 constructor <;> (intros; kernel_rfl)
theorem Tq : Go.Proofs.Builder.Extra Tryz.prog Rl:=by
 constructor <;> first | (intros; kernel_rfl) | decide | (constructor <;> (intros; kernel_rfl))
def con_f4k : A3 Tryz.prog :=
 UX Tc Tq 48 (by kernel_rfl) Tryz.f48 (by kernel_rfl) (by kernel_rfl) (by kernel_rfl) (fun l _=>(Py (at_ l 0),dS (at_ l 1))) [Mh,.any]
abbrev OV : Type:=(Sl ByteArray)
def Gt : OV → V:=(LA (some 9) 1 V.str)
def Gu : V → OV:=(LX dS)
def Gr : Sh:=(.sl (some 9) 1 (V.str (dS .undef)))
abbrev X_f17 : Type:=TEv
abbrev R_f17 : Type:=ByteArray
def J_f17 : A9 Tryz.prog :=
 BF Tryz.prog Tryz.f85 40 [(1,3),(14,1),(23,1),(32,1),(38,1)] [] [] [] [.any] [] [con_f21,con_f2v,con_f2o,con_f36,con_f2i,con_f3b,con_f4k] R_f17 [] fun y=>[V.str y]
def S_f17 : AM :=
 Ae Tryz.f85 1 0 X_f17 (fun x=>[e_TEv x]) fun l=>(d_TEv (at_ l 0))
structure X_f17_4 where
 NG : TEv
 Oe : (Sl ByteArray)
def S_f17_4 : AM :=
 Ad Tryz.f85 4 [(1,.any),(3,Gr)] [] [] X_f17_4 (fun x=>[(CR e_TEv) x.NG,Gt x.Oe]) fun l=>⟨(CS d_TEv) (at_ l 0),Gu (at_ l 1)⟩
structure X_f17_6 where
 NG : TEv
 Oe : (Sl ByteArray)
def S_f17_6 : AM :=
 Ad Tryz.f85 6 [(1,.any),(3,Gr)] [] [] X_f17_6 (fun x=>[(CR e_TEv) x.NG,Gt x.Oe]) fun l=>⟨(CS d_TEv) (at_ l 0),Gu (at_ l 1)⟩
def tt_f17_6 (x : X_f17_6) : TT Tryz.prog R_f17 :=
 (.call con_f36 x.NG.Kind fun (y1 : R_f36) =>
 (.ite y1
 (.call con_f2i (x.NG.Value,10) fun (y2 : R_f2i) =>
 (.need (true && (room (x.Oe.n + 1) 16)) <|
 (.call con_f4k ((Sl.mk (cond (Nat.beq 1 0) x.Oe.nil false) (x.Oe.n + 1) (fun i3=>(cond (Nat.blt i3 x.Oe.n) (x.Oe.get i3) y2))),(ByteArray.mk #[32])) fun (y3 : R_f4k) =>
 (.ret y3))))
 (.call con_f4k (x.Oe,(ByteArray.mk #[32])) fun (y2 : R_f4k) =>
 (.ret y2))))
theorem sd_f17_6 (x : X_f17_6) : (tt_f17_6 x).AH :=
 (TT.sC fun _=>(TT.sI (TT.sC fun _=>(TT.sN (TT.sC fun _=>TT.sR))) (TT.sC fun _=>TT.sR)))
def D_f17_6 : AQ X_f17_6 R_f17:=.of tt_f17_6
theorem ok_f17_6 : AV J_f17 S_f17_6 D_f17_6 :=
 lk mxk lbn sd_f17_6
def tt_f17_4 (x : X_f17_4) : TT Tryz.prog R_f17 :=
 (.call con_f2o x.NG.Kind fun (y1 : R_f2o) =>
 (.ite y1
 (.call con_f2i (x.NG.AG,10) fun (y2 : R_f2i) =>
 (.need (true && (room (x.Oe.n + 1) 16)) <|
 (.jump S_f17_6 D_f17_6 (X_f17_6.mk x.NG (Sl.mk (cond (Nat.beq 1 0) x.Oe.nil false) (x.Oe.n + 1) (fun i3=>(cond (Nat.blt i3 x.Oe.n) (x.Oe.get i3) y2)))))))
 (.jump S_f17_6 D_f17_6 (X_f17_6.mk x.NG x.Oe))))
theorem sd_f17_4 (x : X_f17_4) : (tt_f17_4 x).AH :=
 (TT.sC fun _=>(TT.sI (TT.sC fun _=>(TT.sN TT.sJ)) TT.sJ))
def D_f17_4 : AQ X_f17_4 R_f17:=.of tt_f17_4
theorem ok_f17_4 : AV J_f17 S_f17_4 D_f17_4 :=
 lk mxk (lbc ok_f17_6 rfl lbn) sd_f17_4
def tt_f17 (x : X_f17) : TT Tryz.prog R_f17 :=
 (.call con_f3b x.Thread fun (y1 : R_f3b) =>
 (.call con_f21 x.Kind fun (y2 : R_f21) =>
 (.call con_f2v x.Kind fun (y3 : R_f2v) =>
 (.ite y3
 (.call con_f3b x.Ring fun (y4 : R_f3b) =>
 (.jump S_f17_4 D_f17_4 (X_f17_4.mk x (Sl.mk (cond (Nat.beq 1 0) false false) 3 (fun i5=>(cond (Nat.blt i5 2) (cond (Nat.beq i5 0) y1 y2) y4))))))
 (.jump S_f17_4 D_f17_4 (X_f17_4.mk x (Sl.mk false 2 (fun i4=>(cond (Nat.beq i4 0) y1 y2)))))))))
theorem sd_f17 (x : X_f17) : (tt_f17 x).AH :=
 (TT.sC fun _=>(TT.sC fun _=>(TT.sC fun _=>(TT.sI (TT.sC fun _=>TT.sJ) TT.sJ))))
def D_f17 : AQ X_f17 R_f17:=.of tt_f17
def con_f17 : A3 Tryz.prog :=
 BZ 85 J_f17 S_f17 D_f17 1 0 [.any] (lk mxk (lbc ok_f17_6 rfl (lbc ok_f17_4 rfl lbn)) sd_f17)
abbrev X_f45 : Type:=TEv
abbrev R_f45 : Type:=ByteArray × Int
def J_f45 : A9 Tryz.prog :=
 BF Tryz.prog Tryz.f45 9 [(1,3)] [] [] [] [.any,.any] [] [con_f33,con_f17] R_f45 [] fun y=>[V.CC (V.cons (V.str y.1) (V.cons ((V.int .i64) y.2) (V.unit)))]
def S_f45 : AM :=
 Ae Tryz.f45 1 0 X_f45 (fun x=>[e_TEv x]) fun l=>(d_TEv (at_ l 0))
def tt_f45 (x : X_f45) : TT Tryz.prog R_f45 :=
 (.call con_f33 x fun (y1 : R_f33) =>
 (.ite (!y1)
 (.ret ((ByteArray.mk #[]),3))
 (.call con_f17 x fun (y2 : R_f17) =>
 (.ret (y2,0)))))
theorem sd_f45 (x : X_f45) : (tt_f45 x).AH :=
 (TT.sC fun _=>(TT.sI TT.sR (TT.sC fun _=>TT.sR)))
def D_f45 : AQ X_f45 R_f45:=.of tt_f45
def con_f45 : A3 Tryz.prog :=
 BZ 45 J_f45 S_f45 D_f45 1 0 [.any] (lk mxk lbn sd_f45)
abbrev X_fg : Type:=TPg × (Sl TEv)
abbrev R_fg : Type:=ByteArray × Int
def J_fg : A9 Tryz.prog :=
 BF Tryz.prog Tryz.f23 82 [(2,3),(15,1),(31,1),(41,1),(55,1),(63,1),(79,1)] [(10,[.open_ 6])] [] [] [.any,.any] [] [con_f45,con_f21,con_ff,con_fu,con_f3b,con_f4k] R_fg [] fun y=>[V.CC (V.cons (V.str y.1) (V.cons ((V.int .i64) y.2) (V.unit)))]
def S_fg : AM :=
 Ae Tryz.f23 2 0 X_fg (fun x=>[e_TPg x.1,esl_TEv x.2]) fun l=>(d_TPg (at_ l 0),dsl_TEv (at_ l 1))
structure X_fg_4 where
 DS : (Sl TEv)
 KS : TPg
 Tk : (Bx TFa)
 DR : Int
def S_fg_4 : AM :=
 Ad Tryz.f23 4 [(1,hsl_TEv),(2,.any),(6,hbox_TFa),(7,.any)] [] [] X_fg_4 (fun x=>[esl_TEv x.DS,(CR e_TPg) x.KS,ebox_TFa x.Tk,(V.int .i64) x.DR]) fun l=>⟨dsl_TEv (at_ l 0),(CS d_TPg) (at_ l 1),dbox_TFa (at_ l 2),dI (at_ l 3)⟩
structure X_fg_7 where
 DS : (Sl TEv)
 KS : TPg
 Tk : (Bx TFa)
 DR : Int
 Cv : ByteArray
def S_fg_7 : AM :=
 Ad Tryz.f23 7 [(1,hsl_TEv),(2,.any),(6,hbox_TFa),(7,.any),(9,.any)] [] [] X_fg_7 (fun x=>[esl_TEv x.DS,(CR e_TPg) x.KS,ebox_TFa x.Tk,(V.int .i64) x.DR,V.str x.Cv]) fun l=>⟨dsl_TEv (at_ l 0),(CS d_TPg) (at_ l 1),dbox_TFa (at_ l 2),dI (at_ l 3),dS (at_ l 4)⟩
structure X_fg_11 where
 DR : Int
 Cv : ByteArray
 CL : (Sl ByteArray)
 Du : (Sl Int)
 DU : Int
 Rm : Int
def S_fg_11 : AM :=
 Ad Tryz.f23 11 [(7,.any),(9,.any),(11,Gr),(57,Dc),(58,.any),(59,.any)] [] [] X_fg_11 (fun x=>[(V.int .i64) x.DR,V.str x.Cv,Gt x.CL,DD x.Du,(V.int .i64) x.DU,(V.int .i64) x.Rm]) fun l=>⟨dI (at_ l 0),dS (at_ l 1),Gu (at_ l 2),EV (at_ l 3),dI (at_ l 4),dI (at_ l 5)⟩
structure X_fg_15 where
 DR : Int
 Cv : ByteArray
 CL : (Sl ByteArray)
def S_fg_15 : AM :=
 Ad Tryz.f23 15 [(7,.any),(9,.any),(11,Gr)] [] [] X_fg_15 (fun x=>[(V.int .i64) x.DR,V.str x.Cv,Gt x.CL]) fun l=>⟨dI (at_ l 0),dS (at_ l 1),Gu (at_ l 2)⟩
structure X_fg_17 where
 DR : Int
 Cv : ByteArray
 CL : (Sl ByteArray)
def S_fg_17 : AM :=
 Ad Tryz.f23 17 [(7,.any),(9,.any),(11,Gr)] [] [] X_fg_17 (fun x=>[(V.int .i64) x.DR,V.str x.Cv,Gt x.CL]) fun l=>⟨dI (at_ l 0),dS (at_ l 1),Gu (at_ l 2)⟩
def tt_fg_17 (x : X_fg_17) : TT Tryz.prog R_fg :=
 (.call con_f3b x.DR fun (y1 : R_f3b) =>
 (.need (decide ((((ByteArray.size y1) + (ByteArray.size (ByteArray.mk #[58,32]))) ≤ (9223372036854775807 : Nat)))) <|
 (.need (decide ((((ByteArray.size (y1 ++ (ByteArray.mk #[58,32]))) + (ByteArray.size x.Cv)) ≤ (9223372036854775807 : Nat)))) <|
 (.need (decide ((((ByteArray.size ((y1 ++ (ByteArray.mk #[58,32])) ++ x.Cv)) + (ByteArray.size (ByteArray.mk #[44,32,110,111,116,32]))) ≤ (9223372036854775807 : Nat)))) <|
 (.call con_f4k (x.CL,(ByteArray.mk #[32])) fun (y2 : R_f4k) =>
 (.need (decide ((((ByteArray.size (((y1 ++ (ByteArray.mk #[58,32])) ++ x.Cv) ++ (ByteArray.mk #[44,32,110,111,116,32]))) + (ByteArray.size y2)) ≤ (9223372036854775807 : Nat)))) <|
 (.ret (((((y1 ++ (ByteArray.mk #[58,32])) ++ x.Cv) ++ (ByteArray.mk #[44,32,110,111,116,32])) ++ y2),0))))))))
theorem sd_fg_17 (x : X_fg_17) : (tt_fg_17 x).AH :=
 (TT.sC fun _=>(TT.sN (TT.sN (TT.sN (TT.sC fun _=>(TT.sN TT.sR))))))
def D_fg_17 : AQ X_fg_17 R_fg:=.of tt_fg_17
theorem ok_fg_17 : AV J_fg S_fg_17 D_fg_17 :=
 lk mxk lbn sd_fg_17
def tt_fg_15 (x : X_fg_15) : TT Tryz.prog R_fg :=
 (.ite (AX ((x.CL.n : Nat) : Int) 0)
 (.jump S_fg_17 D_fg_17 (X_fg_17.mk x.DR x.Cv (Sl.mk false 1 (fun _i1=>(ByteArray.mk #[110,111,116,104,105,110,103])))))
 (.jump S_fg_17 D_fg_17 (X_fg_17.mk x.DR x.Cv x.CL)))
theorem sd_fg_15 (x : X_fg_15) : (tt_fg_15 x).AH :=
 (TT.sI TT.sJ TT.sJ)
def D_fg_15 : AQ X_fg_15 R_fg:=.of tt_fg_15
theorem ok_fg_15 : AV J_fg S_fg_15 D_fg_15 :=
 lk mxk (lbc ok_fg_17 rfl lbn) sd_fg_15
def tt_fg_11 (D_fg_11 : AQ X_fg_11 R_fg) (x : X_fg_11) : TT Tryz.prog R_fg :=
 (.ite (BS x.Rm x.DU)
 (.need (A0 x.Rm x.Du.n) <|
 (.call con_f21 (x.Du.get (Int.toNat x.Rm)) fun (y2 : R_f21) =>
 (.need (true && (room (x.CL.n + 1) 16)) <|
 (.jump S_fg_11 D_fg_11 (X_fg_11.mk x.DR x.Cv (Sl.mk (cond (Nat.beq 1 0) x.CL.nil false) (x.CL.n + 1) (fun i3=>(cond (Nat.blt i3 x.CL.n) (x.CL.get i3) y2))) x.Du x.DU (IntKind.i64.wrap (x.Rm + 1)))))))
 (.jump S_fg_15 D_fg_15 (X_fg_15.mk x.DR x.Cv x.CL)))
theorem sd_fg_11 (D_fg_11 : AQ X_fg_11 R_fg) (x : X_fg_11) : (tt_fg_11 D_fg_11 x).AH :=
 (TT.sI (TT.sN (TT.sC fun _=>(TT.sN TT.sJ))) TT.sJ)
def D_fg_11 : AQ X_fg_11 R_fg:=AQ.loop tt_fg_11
theorem ok_fg_11 : AV J_fg S_fg_11 D_fg_11 :=
 Az fun D_fg_11 h_11=>lk mxk (lbc h_11 rfl (lbc ok_fg_17 rfl (lbc ok_fg_15 rfl lbn))) (sd_fg_11 D_fg_11)
def tt_fg_7 (x : X_fg_7) : TT Tryz.prog R_fg :=
 (.need (A0 x.DR x.DS.n) <|
 (.ite (Bd 0 (x.DS.get (Int.toNat x.DR)).Thread)
 (.ite (BS (x.DS.get (Int.toNat x.DR)).Thread ((x.KS.AB.n : Nat) : Int))
 (.need (!x.Tk.nil) <|
 (.call con_ff ((x.DS.get (Int.toNat x.DR)).Thread,x.Tk.x) fun (y1 : R_ff) =>
 (.jump S_fg_11 D_fg_11 (X_fg_11.mk x.DR x.Cv (Sl.mk true 0 (fun _i2=>(ByteArray.mk #[]))) y1 ((y1.n : Nat) : Int) 0))))
 (.jump S_fg_15 D_fg_15 (X_fg_15.mk x.DR x.Cv (Sl.mk true 0 (fun _i1=>(ByteArray.mk #[]))))))
 (.jump S_fg_15 D_fg_15 (X_fg_15.mk x.DR x.Cv (Sl.mk true 0 (fun _i1=>(ByteArray.mk #[])))))))
theorem sd_fg_7 (x : X_fg_7) : (tt_fg_7 x).AH :=
 (TT.sN (TT.sI (TT.sI (TT.sN (TT.sC fun _=>TT.sJ)) TT.sJ) TT.sJ))
def D_fg_7 : AQ X_fg_7 R_fg:=.of tt_fg_7
theorem ok_fg_7 : AV J_fg S_fg_7 D_fg_7 :=
 lk mxk (lbc ok_fg_17 rfl (lbc ok_fg_15 rfl (lbc ok_fg_11 rfl lbn))) sd_fg_7
def tt_fg_4 (x : X_fg_4) : TT Tryz.prog R_fg :=
 (.need (A0 x.DR x.DS.n) <|
 (.call con_f45 (x.DS.get (Int.toNat x.DR)) fun (y1 : R_f45) =>
 (.ite (!(AX y1.snd 0))
 (.jump S_fg_7 D_fg_7 (X_fg_7.mk x.DS x.KS (Bx.mk x.Tk.nil x.Tk.x) x.DR (ByteArray.mk #[63])))
 (.jump S_fg_7 D_fg_7 (X_fg_7.mk x.DS x.KS (Bx.mk x.Tk.nil x.Tk.x) x.DR y1.fst)))))
theorem sd_fg_4 (x : X_fg_4) : (tt_fg_4 x).AH :=
 (TT.sN (TT.sC fun _=>(TT.sI TT.sJ TT.sJ)))
def D_fg_4 : AQ X_fg_4 R_fg:=.of tt_fg_4
theorem ok_fg_4 : AV J_fg S_fg_4 D_fg_4 :=
 lk mxk (lbc ok_fg_17 rfl (lbc ok_fg_15 rfl (lbc ok_fg_11 rfl (lbc ok_fg_7 rfl lbn)))) sd_fg_4
def tt_fg (x : X_fg) : TT Tryz.prog R_fg :=
 (.call con_fu (x.fst,x.snd) fun (y1 : R_fu) =>
 (.ite (!(AX y1.snd.snd 0))
 (.ret ((ByteArray.mk #[]),y1.snd.snd))
 (.ite (AX y1.snd.fst ((x.snd.n : Nat) : Int))
 (.ret ((ByteArray.mk #[]),y1.snd.snd))
 (.jump S_fg_4 D_fg_4 (X_fg_4.mk x.snd x.fst (Bx.mk y1.fst.nil y1.fst.x) y1.snd.fst)))))
theorem sd_fg (x : X_fg) : (tt_fg x).AH :=
 (TT.sC fun _=>(TT.sI TT.sR (TT.sI TT.sR TT.sJ)))
def D_fg : AQ X_fg R_fg:=.of tt_fg
def con_fg : A3 Tryz.prog :=
 BZ 23 J_fg S_fg D_fg 2 0 [sh_TPg,hsl_TEv] (lk mxk (lbc ok_fg_17 rfl (lbc ok_fg_15 rfl (lbc ok_fg_11 rfl (lbc ok_fg_7 rfl (lbc ok_fg_4 rfl lbn))))) sd_fg)
abbrev X_f2f : Type:=TTh
abbrev R_f2f : Type:=Bool
def J_f2f : A9 Tryz.prog :=
 BF Tryz.prog Tryz.f67 6 [(1,3)] [] [] [] [.any] [] [] R_f2f [] fun y=>[V.bool y]
def S_f2f : AM :=
 Ae Tryz.f67 1 0 X_f2f (fun x=>[e_TTh x]) fun l=>(d_TTh (at_ l 0))
def tt_f2f (x : X_f2f) : TT Tryz.prog R_f2f :=
 (.ret (AX x.Status 0))
theorem sd_f2f (x : X_f2f) : (tt_f2f x).AH :=
 TT.sR
def D_f2f : AQ X_f2f R_f2f:=.of tt_f2f
def con_f2f : A3 Tryz.prog :=
 BZ 67 J_f2f S_f2f D_f2f 1 0 [sh_TTh] (lk mxk lbn sd_f2f)
abbrev X_f1 : Type:=(Ar TTh)
abbrev R_f1 : Type:=Int
abbrev RR_f1 : Type:=Int × (Ar TTh)
abbrev p_f1 (y : RR_f1) : (Ar TTh):=y.2
abbrev w_f1 (x : X_f1) : (Ar TTh):=x
def J_f1 : A9 Tryz.prog :=
 BF Tryz.prog Tryz.f111 19 [] [] [] [] [.any] [.any] [con_f2f] RR_f1 [] fun y=>[(V.int .i64) y.1,(Jy 14 e_TTh) y.2]
def S_f1 : AM :=
 Ae Tryz.f111 2 1 X_f1 (fun x=>[(V.own (.par 0) [] 14 x.n 0 x.n),(V.fn 67 V.unit),(Jy 14 e_TTh) x]) fun l=>((Pz d_TTh) (at_ l 2))
structure X_f1_2 where
 UM : Int
 QP : Int
 Ah : (Ar TTh)
def S_f1_2 : AM :=
 Ad Tryz.f111 2 (an [0,1,7,8]) [.any] [] X_f1_2 (fun x=>[(V.own (.par 0) [] 14 x.Ah.n 0 x.Ah.n),(V.fn 67 V.unit),(V.int .i64) x.UM,(V.int .i64) x.QP,(Jy 14 e_TTh) x.Ah]) fun l=>⟨dI (at_ l 2),dI (at_ l 3),(Pz d_TTh) (at_ l 4)⟩
abbrev w_f1_2 (x : X_f1_2) : (Ar TTh):=(x.Ah)
def tt_f1_2 (D_f1_2 : AQ X_f1_2 RR_f1) (x : X_f1_2) : TT Tryz.prog RR_f1 :=
 (.ite (BS x.QP x.UM)
 (.need (A0 x.QP x.Ah.n) <|
 (.need ((Nat.beq x.Ah.n x.Ah.n) && true) <|
 (.call con_f2f (x.Ah.get ((0 : Nat) + (Int.toNat x.QP))) fun (y2 : R_f2f) =>
 (.ite y2
 (.ret (x.QP,x.Ah))
 (.jump S_f1_2 D_f1_2 (X_f1_2.mk x.UM (IntKind.i64.wrap (x.QP + 1)) x.Ah))))))
 (.ret ((-(1 : Int)),x.Ah)))
theorem sd_f1_2 (D_f1_2 : AQ X_f1_2 RR_f1) (x : X_f1_2) : (tt_f1_2 D_f1_2 x).AH :=
 (TT.sI (TT.sN (TT.sN (TT.sC fun _=>(TT.sI TT.sR TT.sJ)))) TT.sR)
theorem roT_f1_2 (D_f1_2 : AQ X_f1_2 RR_f1) (r2 : ∀ x y,D_f1_2.rel x y → p_f1 y = w_f1_2 x) (x : X_f1_2) : TT.Ro p_f1 (w_f1_2 x) (tt_f1_2 D_f1_2 x) :=
 (TT.rI (TT.rN (TT.rN (TT.rC fun _=>(TT.rI (TT.rR rfl) (TT.rJ (r2 _)))))) (TT.rR rfl))
def D_f1_2 : AQ X_f1_2 RR_f1:=AQ.loop tt_f1_2
theorem ok_f1_2 : AV J_f1 S_f1_2 D_f1_2 :=
 Az fun D_f1_2 h_2=>lk mxk (lbc h_2 rfl lbn) (sd_f1_2 D_f1_2)
theorem ro_f1_2 : ∀ x y,D_f1_2.rel x y → p_f1 y = w_f1_2 x :=
 Ju fun D_f1_2 r2=>roT_f1_2 D_f1_2 r2
def tt_f1 (x : X_f1) : TT Tryz.prog RR_f1 :=
 (.jump S_f1_2 D_f1_2 (X_f1_2.mk ((x.n : Nat) : Int) 0 x))
theorem sd_f1 (x : X_f1) : (tt_f1 x).AH :=
 TT.sJ
theorem roT_f1 (x : X_f1) : TT.Ro p_f1 (w_f1 x) (tt_f1 x) :=
 (TT.rJ (ro_f1_2 _))
def D_f1 : AQ X_f1 R_f1:=.ro (.of tt_f1) (fun y=>(y.1)) (fun y x=>(y,x)) fun x y h=>congrArg (fun o=>(y.1,o)) (roT_f1 x y h)
def con_f1 : A3 Tryz.prog :=
 C3 111 J_f1 S_f1 (.of tt_f1) D_f1 (fun y x=>(y,x)) (fun y=>(V.int .i64) y) 2 1 [.any,.any] (lk mxk (lbc ok_f1_2 rfl lbn) sd_f1) (fun x=>⟨(fun _ _=>(nu_e_TTh) _ : ∀ y,((Jy 14 e_TTh) y).CV) (x),trivial⟩)
abbrev X_f8 : Type:=(Ar TTh)
abbrev R_f8 : Type:=Bool
abbrev RR_f8 : Type:=Bool × (Ar TTh)
abbrev p_f8 (y : RR_f8) : (Ar TTh):=y.2
abbrev w_f8 (x : X_f8) : (Ar TTh):=x
def J_f8 : A9 Tryz.prog :=
 BF Tryz.prog Tryz.f66 9 [(5,1)] [] [] [] [.any] [.any] [con_f1] RR_f8 [] fun y=>[V.bool y.1,(Jy 14 e_TTh) y.2]
def S_f8 : AM :=
 Ae Tryz.f66 2 1 X_f8 (fun x=>[(V.own (.par 0) [] 14 x.n 0 x.n),(V.fn 67 V.unit),(Jy 14 e_TTh) x]) fun l=>((Pz d_TTh) (at_ l 2))
def tt_f8 (x : X_f8) : TT Tryz.prog RR_f8 :=
 (.call con_f1 x fun (y1 : R_f1) =>
 (.ret ((Bd 0 y1),x)))
theorem sd_f8 (x : X_f8) : (tt_f8 x).AH :=
 (TT.sC fun _=>TT.sR)
theorem roT_f8 (x : X_f8) : TT.Ro p_f8 (w_f8 x) (tt_f8 x) :=
 (TT.rC fun _=>(TT.rR rfl))
def D_f8 : AQ X_f8 R_f8:=.ro (.of tt_f8) (fun y=>(y.1)) (fun y x=>(y,x)) fun x y h=>congrArg (fun o=>(y.1,o)) (roT_f8 x y h)
def con_f8 : A3 Tryz.prog :=
 C3 66 J_f8 S_f8 (.of tt_f8) D_f8 (fun y x=>(y,x)) (fun y=>V.bool y) 2 1 [.any,.any] (lk mxk lbn sd_f8) (fun x=>⟨(fun _ _=>(nu_e_TTh) _ : ∀ y,((Jy 14 e_TTh) y).CV) (x),trivial⟩)
abbrev X_f1m : Type:=TFa
abbrev R_f1m : Type:=Bool
abbrev RR_f1m : Type:=Bool × TFa
abbrev p_f1m (y : RR_f1m) : TFa:=y.2
abbrev w_f1m (x : X_f1m) : TFa:=x
def J_f1m : A9 Tryz.prog :=
 BF Tryz.prog Tryz.f31 13 [] [] [] [.back (.loc 9 0)] [.any] [sh_TFa] [con_f8] RR_f1m [] fun y=>[V.bool y.1,e_TFa y.2]
def S_f1m : AM :=
 Ae Tryz.f31 1 1 X_f1m (fun x=>[(V.ptr (.par 0) []),e_TFa x]) fun l=>(d_TFa (at_ l 1))
def tt_f1m (x : X_f1m) : TT Tryz.prog RR_f1m :=
 (.call con_f8 (Ar.mk x.threads.n x.threads.get) fun (y1 : R_f8) =>
 (.need ((true && true) && (Nat.beq x.threads.n x.threads.n)) <|
 (.ret ((!y1),x))))
theorem sd_f1m (x : X_f1m) : (tt_f1m x).AH :=
 (TT.sC fun _=>(TT.sN TT.sR))
theorem roT_f1m (x : X_f1m) : TT.Ro p_f1m (w_f1m x) (tt_f1m x) :=
 (TT.rC fun _=>(TT.rN (TT.rR rfl)))
def D_f1m : AQ X_f1m R_f1m:=.ro (.of tt_f1m) (fun y=>(y.1)) (fun y x=>(y,x)) fun x y h=>congrArg (fun o=>(y.1,o)) (roT_f1m x y h)
def con_f1m : A3 Tryz.prog :=
 C3 31 J_f1m S_f1m (.of tt_f1m) D_f1m (fun y x=>(y,x)) (fun y=>V.bool y) 1 1 [.any] (lk mxk lbn sd_f1m) (fun x=>⟨(nu_e_TFa : ∀ y,(e_TFa y).CV) (x),trivial⟩)
abbrev X_fd : Type:=TPg × (Sl TEv)
abbrev R_fd : Type:=Bool × Int
def J_fd : A9 Tryz.prog :=
 BF Tryz.prog Tryz.f21 41 [(2,3),(11,1),(13,1)] [(4,[.open_ 6])] [] [] [.any,.any] [] [con_fe,con_f1m,con_f14,con_f3j] R_fd [] fun y=>[V.CC (V.cons (V.bool y.1) (V.cons ((V.int .i64) y.2) (V.unit)))]
def S_fd : AM :=
 Ae Tryz.f21 2 0 X_fd (fun x=>[e_TPg x.1,esl_TEv x.2]) fun l=>(d_TPg (at_ l 0),dsl_TEv (at_ l 1))
structure X_fd_6 where
 EP : Bool
 F8 : Int
 KO : Int
 C9 : TFa
def S_fd_6 : AM :=
 Ad Tryz.f21 6 (an [6,8,25,26]) [] [(.loc 6 1,sh_TFa)] X_fd_6 (fun x=>[(V.ptr (.loc 6 1) []),V.bool x.EP,(V.int .i64) x.F8,(V.int .i64) x.KO,e_TFa x.C9]) fun l=>⟨dB (at_ l 1),dI (at_ l 2),dI (at_ l 3),d_TFa (at_ l 4)⟩
structure X_fd_9 where
 EP : Bool
 t_9 : Int
 Jv : Int
 F8 : Int
 KO : Int
 C9 : TFa
def S_fd_9 : AM :=
 Ad Tryz.f21 9 (an [6,8,9,10,25,26]) [] [(.loc 6 1,sh_TFa)] X_fd_9 (fun x=>[(V.ptr (.loc 6 1) []),V.bool x.EP,(V.int .i64) x.t_9,(V.int .i64) x.Jv,(V.int .i64) x.F8,(V.int .i64) x.KO,e_TFa x.C9]) fun l=>⟨dB (at_ l 1),dI (at_ l 2),dI (at_ l 3),dI (at_ l 4),dI (at_ l 5),d_TFa (at_ l 6)⟩
structure X_fd_13 where
 EP : Bool
 F8 : Int
 KO : Int
 C9 : TFa
def S_fd_13 : AM :=
 Ad Tryz.f21 13 (an [6,8,25,26]) [] [(.loc 6 1,sh_TFa)] X_fd_13 (fun x=>[(V.ptr (.loc 6 1) []),V.bool x.EP,(V.int .i64) x.F8,(V.int .i64) x.KO,e_TFa x.C9]) fun l=>⟨dB (at_ l 1),dI (at_ l 2),dI (at_ l 3),d_TFa (at_ l 4)⟩
def tt_fd_13 (D_fd_6 : AQ X_fd_6 R_fd) (x : X_fd_13) : TT Tryz.prog R_fd :=
 (.jump S_fd_6 D_fd_6 (X_fd_6.mk x.EP x.F8 (IntKind.i64.wrap (x.KO + 1)) x.C9))
theorem sd_fd_13 (D_fd_6 : AQ X_fd_6 R_fd) (x : X_fd_13) : (tt_fd_13 D_fd_6 x).AH :=
 TT.sJ
def D_fd_13 (D_fd_6 : AQ X_fd_6 R_fd) : AQ X_fd_13 R_fd:=.of (tt_fd_13 D_fd_6)
theorem ok_fd_13 (D_fd_6 : AQ X_fd_6 R_fd) (h_6 : AV J_fd S_fd_6 D_fd_6) : AV J_fd S_fd_13 (D_fd_13 D_fd_6) :=
 lk mxk (lbc h_6 rfl lbn) (sd_fd_13 D_fd_6)
def tt_fd_9 (D_fd_6 : AQ X_fd_6 R_fd) (D_fd_9 : AQ X_fd_9 R_fd) (x : X_fd_9) : TT Tryz.prog R_fd :=
 (.ite (Bd x.Jv 15)
 (.call con_f14 (x.t_9,(x.Jv,x.C9)) fun (y3 : R_f14) =>
 (.call con_fe (y3,x.C9) fun (y4 : R_fe) =>
 (.ite y4
 (.ret (false,0))
 (.jump S_fd_9 D_fd_9 (X_fd_9.mk x.EP x.t_9 (IntKind.i64.wrap (x.Jv + 1)) x.F8 x.KO x.C9)))))
 (.jump S_fd_13 (D_fd_13 D_fd_6) (X_fd_13.mk x.EP x.F8 x.KO x.C9)))
theorem sd_fd_9 (D_fd_6 : AQ X_fd_6 R_fd) (D_fd_9 : AQ X_fd_9 R_fd) (x : X_fd_9) : (tt_fd_9 D_fd_6 D_fd_9 x).AH :=
 (TT.sI (TT.sC fun _=>(TT.sC fun _=>(TT.sI TT.sR TT.sJ))) TT.sJ)
def D_fd_9 (D_fd_6 : AQ X_fd_6 R_fd) : AQ X_fd_9 R_fd:=AQ.loop (tt_fd_9 D_fd_6)
theorem ok_fd_9 (D_fd_6 : AQ X_fd_6 R_fd) (h_6 : AV J_fd S_fd_6 D_fd_6) : AV J_fd S_fd_9 (D_fd_9 D_fd_6) :=
 Az fun D_fd_9 h_9=>lk mxk (lbc h_6 rfl (lbc h_9 rfl (lbc (ok_fd_13 D_fd_6 h_6) rfl lbn))) (sd_fd_9 D_fd_6 D_fd_9)
def tt_fd_6 (D_fd_6 : AQ X_fd_6 R_fd) (x : X_fd_6) : TT Tryz.prog R_fd :=
 (.ite (BS x.KO x.F8)
 (.jump S_fd_9 (D_fd_9 D_fd_6) (X_fd_9.mk x.EP x.KO 1 x.F8 x.KO x.C9))
 (.ret (x.EP,0)))
theorem sd_fd_6 (D_fd_6 : AQ X_fd_6 R_fd) (x : X_fd_6) : (tt_fd_6 D_fd_6 x).AH :=
 (TT.sI TT.sJ TT.sR)
def D_fd_6 : AQ X_fd_6 R_fd:=AQ.loop tt_fd_6
theorem ok_fd_6 : AV J_fd S_fd_6 D_fd_6 :=
 Az fun D_fd_6 h_6=>lk mxk (lbc h_6 rfl (lbc (ok_fd_13 D_fd_6 h_6) rfl (lbc (ok_fd_9 D_fd_6 h_6) rfl lbn))) (sd_fd_6 D_fd_6)
def tt_fd (x : X_fd) : TT Tryz.prog R_fd :=
 (.call con_f3j (x.fst,x.snd) fun (y1 : R_f3j) =>
 (.ite (!(AX y1.snd 0))
 (.ret (false,y1.snd))
 (.need (!y1.fst.nil) <|
 (.call con_f1m y1.fst.x fun (y2 : R_f1m) =>
 (.jump S_fd_6 D_fd_6 (X_fd_6.mk (!y2) ((x.fst.AB.n : Nat) : Int) 0 y1.fst.x))))))
theorem sd_fd (x : X_fd) : (tt_fd x).AH :=
 (TT.sC fun _=>(TT.sI TT.sR (TT.sN (TT.sC fun _=>TT.sJ))))
def D_fd : AQ X_fd R_fd:=.of tt_fd
def con_fd : A3 Tryz.prog :=
 BZ 21 J_fd S_fd D_fd 2 0 [sh_TPg,hsl_TEv] (lk mxk (lbc ok_fd_6 rfl lbn) sd_fd)
abbrev X_f2l : Type:=(Sl Int) × (Sl Int)
abbrev R_f2l : Type:=Bool
def J_f2l : A9 Tryz.prog :=
 BF Tryz.prog Tryz.f19 26 [] [] [] [] [.any] [] [] R_f2l [] fun y=>[V.bool y]
def S_f2l : AM :=
 Ae Tryz.f19 2 0 X_f2l (fun x=>[DD x.1,DD x.2]) fun l=>(EV (at_ l 0),EV (at_ l 1))
structure X_f2l_4 where
 XL : (Sl Int)
 XS : (Sl Int)
 Nf : Int
 HR : Int
def S_f2l_4 : AM :=
 Ad Tryz.f19 4 [(0,Dc),(1,Dc),(12,.any),(13,.any)] [] [] X_f2l_4 (fun x=>[DD x.XL,DD x.XS,(V.int .i64) x.Nf,(V.int .i64) x.HR]) fun l=>⟨EV (at_ l 0),EV (at_ l 1),dI (at_ l 2),dI (at_ l 3)⟩
def tt_f2l_4 (D_f2l_4 : AQ X_f2l_4 R_f2l) (x : X_f2l_4) : TT Tryz.prog R_f2l :=
 (.ite (BS x.HR x.Nf)
 (.need (A0 x.HR x.XL.n) <|
 (.need (A0 x.HR x.XS.n) <|
 (.ite (!(AX (x.XL.get (Int.toNat x.HR)) (x.XS.get (Int.toNat x.HR))))
 (.ret false)
 (.jump S_f2l_4 D_f2l_4 (X_f2l_4.mk x.XL x.XS x.Nf (IntKind.i64.wrap (x.HR + 1)))))))
 (.ret true))
theorem sd_f2l_4 (D_f2l_4 : AQ X_f2l_4 R_f2l) (x : X_f2l_4) : (tt_f2l_4 D_f2l_4 x).AH :=
 (TT.sI (TT.sN (TT.sN (TT.sI TT.sR TT.sJ))) TT.sR)
def D_f2l_4 : AQ X_f2l_4 R_f2l:=AQ.loop tt_f2l_4
theorem ok_f2l_4 : AV J_f2l S_f2l_4 D_f2l_4 :=
 Az fun D_f2l_4 h_4=>lk mxk (lbc h_4 rfl lbn) (sd_f2l_4 D_f2l_4)
def tt_f2l (x : X_f2l) : TT Tryz.prog R_f2l :=
 (.ite (!(AX ((x.fst.n : Nat) : Int) ((x.snd.n : Nat) : Int)))
 (.ret false)
 (.jump S_f2l_4 D_f2l_4 (X_f2l_4.mk x.fst x.snd ((x.fst.n : Nat) : Int) 0)))
theorem sd_f2l (x : X_f2l) : (tt_f2l x).AH :=
 (TT.sI TT.sR TT.sJ)
def D_f2l : AQ X_f2l R_f2l:=.of tt_f2l
def con_f2l : A3 Tryz.prog :=
 BZ 19 J_f2l S_f2l D_f2l 2 0 [Dc,Dc] (lk mxk (lbc ok_f2l_4 rfl lbn) sd_f2l)
abbrev X_f4b : Type:=Unit
abbrev R_f4b : Type:=Bool
def J_f4b : A9 Tryz.prog :=
 BF Tryz.prog Tryz.f36 37 [(12,1),(17,1)] [] [] [] [.any] [] [con_fd,con_fg] R_f4b [] fun y=>[V.bool y]
def S_f4b : AM :=
 Ae Tryz.f36 0 0 X_f4b (fun _x=>[]) fun _l=>()
def tt_f4b (_x : X_f4b) : TT Tryz.prog R_f4b :=
 (.call con_fd ((TPg.mk (Sl.mk false 1 (fun _i1=>(TRg.mk 1 1 1))) (Sl.mk false 1 (fun _i1=>(Sl.mk false 1 (fun _i2=>(TIn.mk 19 1 2 0 1 0)))))),(Sl.mk true 0 (fun _i1=>(TEv.mk 0 0 0 0 0)))) fun (y1 : R_fd) =>
 (.call con_fg ((TPg.mk (Sl.mk false 1 (fun _i2=>(TRg.mk 1 1 1))) (Sl.mk false 1 (fun _i2=>(Sl.mk false 1 (fun _i3=>(TIn.mk 19 1 2 0 1 0)))))),(Sl.mk false 1 (fun _i2=>(TEv.mk 0 3 0 0 0)))) fun (y2 : R_fg) =>
 (.ite y1.fst
 (.ite (AX y1.snd 0)
 (.ite (seq y2.fst (ByteArray.mk #[48,58,32,48,32,116,97,107,101,32,48,32,48,44,32,110,111,116,32,110,111,116,104,105,110,103]))
 (.ret (AX y2.snd 0))
 (.ret false))
 (.ret false))
 (.ret false))))
theorem sd_f4b (x : X_f4b) : (tt_f4b x).AH :=
 (TT.sC fun _=>(TT.sC fun _=>(TT.sI (TT.sI (TT.sI TT.sR TT.sR) TT.sR) TT.sR)))
def D_f4b : AQ X_f4b R_f4b:=.of tt_f4b
def con_f4b : A3 Tryz.prog :=
 BZ 36 J_f4b S_f4b D_f4b 0 0 [] (lk mxk lbn sd_f4b)
abbrev X_f3f : Type:=Unit
abbrev R_f3f : Type:=Bool
def J_f3f : A9 Tryz.prog :=
 BF Tryz.prog Tryz.f11 119 [(22,1),(28,1),(33,1),(39,1),(45,1),(50,1),(55,1),(57,1),(61,1),(76,1)] [] [] [] [.any] [] [con_f2e,con_f3q,con_fd,con_fg,con_f2l,con_f4e,con_f4b] R_f3f [] fun y=>[V.bool y]
def S_f3f : AM :=
 Ae Tryz.f11 0 0 X_f3f (fun _x=>[]) fun _l=>()
def tt_f3f (_x : X_f3f) : TT Tryz.prog R_f3f :=
 (.call con_f4e PUnit.unit fun (y1 : R_f4e) =>
 (.call con_f3q (y1,(Sl.mk false 1 (fun _i2=>(TEv.mk 0 14 0 0 0)))) fun (y2 : R_f3q) =>
 (.call con_f2e (y1,((Sl.mk true 0 (fun _i3=>(TEv.mk 0 0 0 0 0))),0)) fun (y3 : R_f2e) =>
 (.call con_fg (y1,(Sl.mk false 1 (fun _i4=>(TEv.mk 0 14 0 0 0)))) fun (y4 : R_fg) =>
 (.call con_f2e (y1,((Sl.mk false 1 (fun _i5=>(TEv.mk 0 14 0 0 0))),0)) fun (y5 : R_f2e) =>
 (.call con_f2e (y1,((Sl.mk true 0 (fun _i6=>(TEv.mk 0 0 0 0 0))),1)) fun (y6 : R_f2e) =>
 (.call con_f3q ((TPg.mk (Sl.mk true 0 (fun _i7=>(TRg.mk 0 0 0))) (Sl.mk true 0 (fun _i7=>(Sl.mk true 0 (fun _i8=>(TIn.mk 0 0 0 0 0 0)))))),(Sl.mk true 0 (fun _i7=>(TEv.mk 0 0 0 0 0)))) fun (y7 : R_f3q) =>
 (.call con_fd (y1,(Sl.mk false 1 (fun _i8=>(TEv.mk 0 14 0 0 0)))) fun (y8 : R_fd) =>
 (.call con_f3q (y1,(Sl.mk false 2 (fun i9=>(TEv.mk (cond (Nat.beq i9 0) (0 : Int) (0 : Int)) (cond (Nat.beq i9 0) (12 : Int) (14 : Int)) (cond (Nat.beq i9 0) (0 : Int) (0 : Int)) (cond (Nat.beq i9 0) (0 : Int) (0 : Int)) (cond (Nat.beq i9 0) (0 : Int) (0 : Int)))))) fun (y9 : R_f3q) =>
 (.ite (AX y2.fst 0)
 (.ite (AX y2.snd 0)
 (.call con_f2l (y3.fst,(Sl.mk false 1 (fun _i10=>(12 : Int)))) fun (y10 : R_f2l) =>
 (.ite y10
 (.ite (AX y3.snd 0)
 (.ite (seq y4.fst (ByteArray.mk #[48,58,32,48,32,104,97,108,116,44,32,110,111,116,32,115,101,101]))
 (.ite (AX y4.snd 0)
 (.ite (AX y5.snd 11)
 (.ite (AX y6.snd 5)
 (.ite (AX y7.snd 1)
 (.ite (AX y8.snd 11)
 (.ite (AX y9.fst 2)
 (.ite (AX y9.snd 0)
 (.call con_f4b PUnit.unit fun (y11 : R_f4b) =>
 (.ret y11))
 (.ret false))
 (.ret false))
 (.ret false))
 (.ret false))
 (.ret false))
 (.ret false))
 (.ret false))
 (.ret false))
 (.ret false))
 (.ret false)))
 (.ret false))
 (.ret false)))))))))))
theorem sd_f3f (x : X_f3f) : (tt_f3f x).AH :=
 (TT.sC fun _=>(TT.sC fun _=>(TT.sC fun _=>(TT.sC fun _=>(TT.sC fun _=>(TT.sC fun _=>(TT.sC fun _=>(TT.sC fun _=>(TT.sC fun _=>(TT.sI (TT.sI (TT.sC fun _=>(TT.sI (TT.sI (TT.sI (TT.sI (TT.sI (TT.sI (TT.sI (TT.sI (TT.sI (TT.sI (TT.sC fun _=>TT.sR) TT.sR) TT.sR) TT.sR) TT.sR) TT.sR) TT.sR) TT.sR) TT.sR) TT.sR) TT.sR)) TT.sR) TT.sR))))))))))
def D_f3f : AQ X_f3f R_f3f:=.of tt_f3f
def con_f3f : A3 Tryz.prog :=
 BZ 11 J_f3f S_f3f D_f3f 0 0 [] (lk mxk lbn sd_f3f)
end Go.Proofs.YtlhifcnjnmeknaaGreatDoor
end
