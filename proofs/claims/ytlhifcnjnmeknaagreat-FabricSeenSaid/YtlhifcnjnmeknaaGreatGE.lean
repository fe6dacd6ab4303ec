/- What functions of the program come to, part E: no statement is proved here. -/
import Derived.Test.YtlhifcnjnmeknaaGreatGD
noncomputable section
namespace Go.Proofs.YtlhifcnjnmeknaaGreat
open Go Go.Vm Go.Proofs
set_option maxRecDepth 100000
abbrev X_f4 : Type := TFa
abbrev R_f4 : Type := TSt
abbrev RR_f4 : Type := TSt × TFa
abbrev p_f4 (y : RR_f4) : TFa := y.2
abbrev w_f4 (x : X_f4) : TFa := x
def J_f4 : BH Tryz.prog :=
 BR Tryz.prog Tryz.f14 64 [(56, 1)] [(4, [.back (.loc 12 0)]), (5, [.back (.loc 37 0), .back (.loc 34 0), .back (.loc 28 0), .back (.loc 12 0)]), (6, [.back (.loc 37 0), .back (.loc 34 0), .back (.loc 28 0), .back (.loc 12 0)]), (7, [.back (.loc 37 0), .back (.loc 34 0), .back (.loc 28 0), .back (.loc 12 0)]), (8, [.back (.loc 37 0), .back (.loc 34 0), .back (.loc 28 0), .back (.loc 12 0)]), (9, [.back (.loc 37 0), .back (.loc 34 0), .back (.loc 28 0), .back (.loc 12 0), .Sr (.loc 2 0) [.BN 0 0]]), (10, [.back (.loc 54 0), .back (.loc 37 0), .back (.loc 34 0), .back (.loc 28 0), .back (.loc 12 0)]), (11, [.back (.loc 54 0), .back (.loc 37 0), .back (.loc 34 0), .back (.loc 28 0), .back (.loc 12 0)]), (12, [.back (.loc 37 0), .back (.loc 34 0), .back (.loc 28 0), .back (.loc 12 0)]), (13, [.back (.loc 54 0), .back (.loc 37 0), .back (.loc 34 0), .back (.loc 28 0), .back (.loc 12 0)]), (14, [.back (.loc 54 0), .back (.loc 49 0), .back (.loc 37 0), .back (.loc 34 0), .back (.loc 28 0), .back (.loc 12 0)])] [(3, [.Gb (.par 0) [.BN 1 2] 12]), (7, [.Gb (.loc 2 0) [.BN 0 0] 34, .Gb (.loc 2 0) [.BN 0 0] 37])] [.back (.loc 54 0), .back (.loc 49 0), .back (.loc 37 0), .back (.loc 34 0), .back (.loc 28 0), .back (.loc 12 0)] [sh_TSt] [sh_TFa] [con_f1d, con_ff, con_f1a] RR_f4 [(0, [⟨.loc 12 0, .par 0, [.BN 1 2], none, none⟩, ⟨.loc 34 0, .loc 2 0, [.BN 0 0], none, none⟩, ⟨.loc 37 0, .loc 2 0, [.BN 0 0], none, none⟩]), (5, [⟨.loc 12 0, .par 0, [.BN 1 2], none, none⟩, ⟨.loc 34 0, .loc 2 0, [.BN 0 0], none, none⟩, ⟨.loc 37 0, .loc 2 0, [.BN 0 0], none, none⟩]), (9, [⟨.loc 12 0, .par 0, [.BN 1 2], none, none⟩, ⟨.loc 34 0, .loc 2 0, [.BN 0 0], none, none⟩, ⟨.loc 37 0, .loc 2 0, [.BN 0 0], none, none⟩]), (10, [⟨.loc 49 0, .par 0, [.BN 2 3], none, none⟩, ⟨.loc 12 0, .par 0, [.BN 1 2], none, none⟩, ⟨.loc 34 0, .loc 2 0, [.BN 0 0], none, none⟩, ⟨.loc 37 0, .loc 2 0, [.BN 0 0], none, none⟩])] fun y => [e_TSt y.1, e_TFa y.2]
def S_f4 : AR :=
 Aj Tryz.f14 1 1 X_f4 (fun x => [(V.ptr (.par 0) []), e_TFa x]) fun l => (d_TFa (at_ l 1))
structure X_f4_5 where
 L0 : Int
 D0 : Int
 Ae : TFa
 CM : TSt
def S_f4_5 : AR :=
 Ak Tryz.f14 5 (an [0, 2, 29, 30]) [sh_TFa] [(.loc 2 0, sh_TSt_o0_1)] X_f4_5 (fun x => [(V.ptr (.par 0) []), (V.ptr (.loc 2 0) []), (V.int .i64) x.L0, (V.int .i64) x.D0, e_TFa x.Ae, e_TSt_o0_1 x.CM]) fun l => ⟨dI (at_ l 2), dI (at_ l 3), d_TFa (at_ l 4), d_TSt (at_ l 5)⟩
structure X_f4_9 where
 Ae : TFa
 CM : TSt
def S_f4_9 : AR :=
 Ak Tryz.f14 9 (an [0, 2]) [sh_TFa] [(.loc 2 0, sh_TSt_1)] X_f4_9 (fun x => [(V.ptr (.par 0) []), (V.ptr (.loc 2 0) []), e_TFa x.Ae, e_TSt_1 x.CM]) fun l => ⟨d_TFa (at_ l 2), d_TSt (at_ l 3)⟩
structure X_f4_10 where
 SL : Int
 Ca : Int
 Ae : TFa
 CM : TSt
def S_f4_10 : AR :=
 Ak Tryz.f14 10 (an [2, 49, 50, 51]) [sh_TFa] [(.loc 2 0, sh_TSt_1), (.loc 49 0, .any)] X_f4_10 (fun x => [(V.ptr (.loc 2 0) []), (V.own (.loc 49 0) [] 1 x.Ae.rings.n 0 x.Ae.rings.n), (V.int .i64) x.SL, (V.int .i64) x.Ca, V.cons (e_TPg x.Ae.p) (V.cons (eosl_TTh x.Ae.threads) (V.cons (V.BQ (.loc 49 0) 70 1 x.Ae.rings.nil x.Ae.rings.n) (V.cons ((V.int .u64) x.Ae.now) (V.cons ((V.int .u64) x.Ae.reads) (V.cons (V.bool x.Ae.ended) (V.unit)))))), e_TSt_1 x.CM, (V.arr 1 x.Ae.rings.n fun i => ebox_TRr (x.Ae.rings.get i))]) fun l => ⟨dI (at_ l 2), dI (at_ l 3), { d_TFa (at_ l 4) with rings := ⟨(Pa (fd (at_ l 4) 2)).nil, (Pa (fd (at_ l 4) 2)).n, (Mq dbox_TRr (at_ l 6)).get⟩ }, d_TSt (at_ l 5)⟩
abbrev w_f4_5 (x : X_f4_5) : TFa := (x.Ae)
abbrev w_f4_9 (x : X_f4_9) : TFa := (x.Ae)
abbrev w_f4_10 (x : X_f4_10) : TFa := (x.Ae)
def tt_f4_10 (D_f4_10 : AV X_f4_10 RR_f4) (x : X_f4_10) : TT Tryz.prog RR_f4 :=
 (.ite (Bu x.Ca x.SL)
 (.need (BA x.Ca x.Ae.rings.n) <|
 (.need (((Nat.beq x.Ae.rings.n x.Ae.rings.n) && true) && (!(x.Ae.rings.get ((0 : Nat) + (Int.toNat x.Ca))).nil)) <|
 (.call con_f1d (x.Ae.rings.get ((0 : Nat) + (Int.toNat x.Ca))).x fun (y2 : R_f1d) =>
 (.need (true && (room (x.CM.AK.n + 1) 64)) <|
 (.need ((true && true) && (((Nat.beq x.Ae.rings.n x.Ae.rings.n) && (Nat.blt ((0 : Nat) + (Int.toNat x.Ca)) x.Ae.rings.n)) && (!(x.Ae.rings.get ((0 : Nat) + (Int.toNat x.Ca))).nil))) <|
 (.side (((fun v : Nat → V => v = v) (fun i3 => (cond (Nat.beq i3 ((0 : Nat) + (Int.toNat x.Ca))) (V.ptr (Id.loc 54 0) List.nil) (V.Aa (x.Ae.rings.get i3).nil (V.cons (V.cons (V.int IntKind.u64 (x.Ae.rings.get i3).x.AA.tail) (V.cons (V.Aq 36 1 (x.Ae.rings.get i3).x.AA.AB.nil (x.Ae.rings.get i3).x.AA.AB.n (fun i4 => (V.int IntKind.u64 ((x.Ae.rings.get i3).x.AA.AB.get i4)))) V.unit)) (V.cons (V.Aa (x.Ae.rings.get i3).x.s.nil (V.cons (V.Aq 115 3 (x.Ae.rings.get i3).x.s.x.l.nil (x.Ae.rings.get i3).x.s.x.l.n (fun i4 => (V.cons (V.int IntKind.u64 ((x.Ae.rings.get i3).x.s.x.l.get i4).AQ) (V.cons (V.int IntKind.u64 ((x.Ae.rings.get i3).x.s.x.l.get i4).Value) (V.cons (V.int IntKind.i64 ((x.Ae.rings.get i3).x.s.x.l.get i4).Left) V.unit))))) (V.cons (V.int IntKind.i64 (x.Ae.rings.get i3).x.s.x.AP) V.unit))) (V.cons (V.int IntKind.u64 (x.Ae.rings.get i3).x.most) (V.cons (V.bool (x.Ae.rings.get i3).x.closed) V.unit)))))))) ∧ (((fun v : V => v = v) (V.cons (V.cons (V.int IntKind.u64 (x.Ae.rings.get ((0 : Nat) + (Int.toNat x.Ca))).x.AA.tail) (V.cons (V.Aq 36 1 (x.Ae.rings.get ((0 : Nat) + (Int.toNat x.Ca))).x.AA.AB.nil (x.Ae.rings.get ((0 : Nat) + (Int.toNat x.Ca))).x.AA.AB.n (fun i3 => (V.int IntKind.u64 ((x.Ae.rings.get ((0 : Nat) + (Int.toNat x.Ca))).x.AA.AB.get i3)))) V.unit)) (V.cons (V.Aa (x.Ae.rings.get ((0 : Nat) + (Int.toNat x.Ca))).x.s.nil (V.cons (V.Aq 115 3 (x.Ae.rings.get ((0 : Nat) + (Int.toNat x.Ca))).x.s.x.l.nil (x.Ae.rings.get ((0 : Nat) + (Int.toNat x.Ca))).x.s.x.l.n (fun i3 => (V.cons (V.int IntKind.u64 ((x.Ae.rings.get ((0 : Nat) + (Int.toNat x.Ca))).x.s.x.l.get i3).AQ) (V.cons (V.int IntKind.u64 ((x.Ae.rings.get ((0 : Nat) + (Int.toNat x.Ca))).x.s.x.l.get i3).Value) (V.cons (V.int IntKind.i64 ((x.Ae.rings.get ((0 : Nat) + (Int.toNat x.Ca))).x.s.x.l.get i3).Left) V.unit))))) (V.cons (V.int IntKind.i64 (x.Ae.rings.get ((0 : Nat) + (Int.toNat x.Ca))).x.s.x.AP) V.unit))) (V.cons (V.int IntKind.u64 (x.Ae.rings.get ((0 : Nat) + (Int.toNat x.Ca))).x.most) (V.cons (V.bool (x.Ae.rings.get ((0 : Nat) + (Int.toNat x.Ca))).x.closed) V.unit))))) ∧ ((fun v : V => v = v) (V.Aa (x.Ae.rings.get ((0 : Nat) + (Int.toNat x.Ca))).nil (V.cons (V.cons (V.int IntKind.u64 (x.Ae.rings.get ((0 : Nat) + (Int.toNat x.Ca))).x.AA.tail) (V.cons (V.Aq 36 1 (x.Ae.rings.get ((0 : Nat) + (Int.toNat x.Ca))).x.AA.AB.nil (x.Ae.rings.get ((0 : Nat) + (Int.toNat x.Ca))).x.AA.AB.n (fun i3 => (V.int IntKind.u64 ((x.Ae.rings.get ((0 : Nat) + (Int.toNat x.Ca))).x.AA.AB.get i3)))) V.unit)) (V.cons (V.Aa (x.Ae.rings.get ((0 : Nat) + (Int.toNat x.Ca))).x.s.nil (V.cons (V.Aq 115 3 (x.Ae.rings.get ((0 : Nat) + (Int.toNat x.Ca))).x.s.x.l.nil (x.Ae.rings.get ((0 : Nat) + (Int.toNat x.Ca))).x.s.x.l.n (fun i3 => (V.cons (V.int IntKind.u64 ((x.Ae.rings.get ((0 : Nat) + (Int.toNat x.Ca))).x.s.x.l.get i3).AQ) (V.cons (V.int IntKind.u64 ((x.Ae.rings.get ((0 : Nat) + (Int.toNat x.Ca))).x.s.x.l.get i3).Value) (V.cons (V.int IntKind.i64 ((x.Ae.rings.get ((0 : Nat) + (Int.toNat x.Ca))).x.s.x.l.get i3).Left) V.unit))))) (V.cons (V.int IntKind.i64 (x.Ae.rings.get ((0 : Nat) + (Int.toNat x.Ca))).x.s.x.AP) V.unit))) (V.cons (V.int IntKind.u64 (x.Ae.rings.get ((0 : Nat) + (Int.toNat x.Ca))).x.most) (V.cons (V.bool (x.Ae.rings.get ((0 : Nat) + (Int.toNat x.Ca))).x.closed) V.unit)))))))) <|
 (.Ac S_f4_10 D_f4_10 (X_f4_10.mk x.SL (IntKind.i64.wrap (x.Ca + 1)) x.Ae (TSt.mk x.CM.AD (Sl.mk (cond (Nat.beq 1 0) x.CM.AK.nil false) (x.CM.AK.n + 1) (fun i3 => (TRs.mk (cond (Nat.blt i3 x.CM.AK.n) (x.CM.AK.get i3).A4 y2.A4) (Sl.mk (cond (Nat.blt i3 x.CM.AK.n) (x.CM.AK.get i3).An.nil y2.An.nil) (cond (Nat.blt i3 x.CM.AK.n) (x.CM.AK.get i3).An.n y2.An.n) (fun i4 => (cond (Nat.blt i3 x.CM.AK.n) ((x.CM.AK.get i3).An.get i4) (y2.An.get i4)))) (cond (Nat.blt i3 x.CM.AK.n) (x.CM.AK.get i3).B4 y2.B4) (Sl.mk (cond (Nat.blt i3 x.CM.AK.n) (x.CM.AK.get i3).Aw.nil y2.Aw.nil) (cond (Nat.blt i3 x.CM.AK.n) (x.CM.AK.get i3).Aw.n y2.Aw.n) (fun i4 => (TSo.mk (cond (Nat.blt i3 x.CM.AK.n) ((x.CM.AK.get i3).Aw.get i4).AQ (y2.Aw.get i4).AQ) (cond (Nat.blt i3 x.CM.AK.n) ((x.CM.AK.get i3).Aw.get i4).Value (y2.Aw.get i4).Value) (cond (Nat.blt i3 x.CM.AK.n) ((x.CM.AK.get i3).Aw.get i4).Left (y2.Aw.get i4).Left))))))) x.CM.Mj x.CM.Reads x.CM.FE)))))))))
 (.need ((true && true) && (Nat.beq x.Ae.rings.n x.Ae.rings.n)) <|
 (.ret (x.CM, x.Ae))))
theorem sd_f4_10 (D_f4_10 : AV X_f4_10 RR_f4) (x : X_f4_10) : (tt_f4_10 D_f4_10 x).AH :=
 (TT.sI (TT.sN (TT.sN (TT.sC fun _ => (TT.sN (TT.sN (TT.sS ⟨rfl, ⟨rfl, rfl⟩⟩ TT.sJ)))))) (TT.sN TT.sR))
theorem roT_f4_10 (D_f4_10 : AV X_f4_10 RR_f4) (r10 : ∀ x y, D_f4_10.rel x y → p_f4 y = w_f4_10 x) (x : X_f4_10) : TT.Ro p_f4 (w_f4_10 x) (tt_f4_10 D_f4_10 x) :=
 (TT.rI (TT.rN (TT.rN (TT.rC fun _ => (TT.rN (TT.rN (TT.rS (TT.rJ (r10 _)))))))) (TT.rN (TT.rR rfl)))
def D_f4_10 : AV X_f4_10 RR_f4 := AV.loop tt_f4_10
theorem ok_f4_10 : AZ J_f4 S_f4_10 D_f4_10 :=
 BF fun D_f4_10 h_10 => lk mxk (lbc h_10 rfl lbn) (sd_f4_10 D_f4_10)
theorem ro_f4_10 : ∀ x y, D_f4_10.rel x y → p_f4 y = w_f4_10 x :=
 G1 fun D_f4_10 r10 => roT_f4_10 D_f4_10 r10
def tt_f4_9 (x : X_f4_9) : TT Tryz.prog RR_f4 :=
 (.Ac S_f4_10 D_f4_10 (X_f4_10.mk ((x.Ae.rings.n : Nat) : Int) 0 x.Ae x.CM))
theorem sd_f4_9 (x : X_f4_9) : (tt_f4_9 x).AH :=
 TT.sJ
theorem roT_f4_9 (x : X_f4_9) : TT.Ro p_f4 (w_f4_9 x) (tt_f4_9 x) :=
 (TT.rJ (ro_f4_10 _))
def D_f4_9 : AV X_f4_9 RR_f4 := .of tt_f4_9
theorem ok_f4_9 : AZ J_f4 S_f4_9 D_f4_9 :=
 lk mxk (lbc ok_f4_10 rfl lbn) sd_f4_9
theorem ro_f4_9 : ∀ x y, D_f4_9.rel x y → p_f4 y = w_f4_9 x :=
 roT_f4_9 
def tt_f4_5 (D_f4_5 : AV X_f4_5 RR_f4) (x : X_f4_5) : TT Tryz.prog RR_f4 :=
 (.ite (Bu x.D0 x.L0)
 (.need (BA x.D0 x.CM.AD.n) <|
 (.need ((Nat.beq x.CM.AD.n x.CM.AD.n) && true) <|
 (.call con_f1a (x.CM.AD.get ((0 : Nat) + (Int.toNat x.D0))).Seen fun (y2 : R_f1a) =>
 (.need (BA x.D0 x.CM.AD.n) <|
 (.need ((Nat.beq x.CM.AD.n x.CM.AD.n) && true) <|
 (.need ((true && true) && (Nat.beq x.CM.AD.n x.CM.AD.n)) <|
 (.Ac S_f4_5 D_f4_5 (X_f4_5.mk x.L0 (IntKind.i64.wrap (x.D0 + 1)) x.Ae (TSt.mk (Sl.mk x.CM.AD.nil x.CM.AD.n (fun i3 => (TTh.mk (cond (Nat.beq i3 ((0 : Nat) + (Int.toNat x.D0))) (x.CM.AD.get ((0 : Nat) + (Int.toNat x.D0))).At (x.CM.AD.get i3).At) (cond (Nat.beq i3 ((0 : Nat) + (Int.toNat x.D0))) (x.CM.AD.get ((0 : Nat) + (Int.toNat x.D0))).Phase (x.CM.AD.get i3).Phase) (cond (Nat.beq i3 ((0 : Nat) + (Int.toNat x.D0))) (x.CM.AD.get ((0 : Nat) + (Int.toNat x.D0))).Ring (x.CM.AD.get i3).Ring) (cond (Nat.beq i3 ((0 : Nat) + (Int.toNat x.D0))) (x.CM.AD.get ((0 : Nat) + (Int.toNat x.D0))).Status (x.CM.AD.get i3).Status) (cond (Nat.beq i3 ((0 : Nat) + (Int.toNat x.D0))) (x.CM.AD.get ((0 : Nat) + (Int.toNat x.D0))).AJ (x.CM.AD.get i3).AJ) (fun i4 => (cond (Nat.beq i3 ((0 : Nat) + (Int.toNat x.D0))) ((x.CM.AD.get ((0 : Nat) + (Int.toNat x.D0))).Ao i4) ((x.CM.AD.get i3).Ao i4))) (Sl.mk (cond (Nat.beq i3 ((0 : Nat) + (Int.toNat x.D0))) y2.nil (x.CM.AD.get i3).Seen.nil) (cond (Nat.beq i3 ((0 : Nat) + (Int.toNat x.D0))) y2.n (x.CM.AD.get i3).Seen.n) (fun i4 => (cond (Nat.beq i3 ((0 : Nat) + (Int.toNat x.D0))) (y2.get i4) ((x.CM.AD.get i3).Seen.get i4))))))) x.CM.AK x.CM.Mj x.CM.Reads x.CM.FE)))))))))
 (.side (∀ i2 : Nat, ((i2 < x.CM.AD.n) → ((true && (true && (true && (true && (true && ((true && (true && (true && (true && (true && (true && (true && (true && true)))))))) && (true && true))))))) = true))) <|
 (.Ac S_f4_9 D_f4_9 (X_f4_9.mk x.Ae x.CM))))
theorem sd_f4_5 (D_f4_5 : AV X_f4_5 RR_f4) (x : X_f4_5) : (tt_f4_5 D_f4_5 x).AH :=
 (TT.sI (TT.sN (TT.sN (TT.sC fun _ => (TT.sN (TT.sN (TT.sN TT.sJ)))))) (TT.sS (fun _ _ => rfl) TT.sJ))
theorem roT_f4_5 (D_f4_5 : AV X_f4_5 RR_f4) (r5 : ∀ x y, D_f4_5.rel x y → p_f4 y = w_f4_5 x) (x : X_f4_5) : TT.Ro p_f4 (w_f4_5 x) (tt_f4_5 D_f4_5 x) :=
 (TT.rI (TT.rN (TT.rN (TT.rC fun _ => (TT.rN (TT.rN (TT.rN (TT.rJ (r5 _)))))))) (TT.rS (TT.rJ (ro_f4_9 _))))
def D_f4_5 : AV X_f4_5 RR_f4 := AV.loop tt_f4_5
theorem ok_f4_5 : AZ J_f4 S_f4_5 D_f4_5 :=
 BF fun D_f4_5 h_5 => lk mxk (lbc h_5 rfl (lbc ok_f4_10 rfl (lbc ok_f4_9 rfl lbn))) (sd_f4_5 D_f4_5)
theorem ro_f4_5 : ∀ x y, D_f4_5.rel x y → p_f4 y = w_f4_5 x :=
 G1 fun D_f4_5 r5 => roT_f4_5 D_f4_5 r5
def tt_f4 (x : X_f4) : TT Tryz.prog RR_f4 :=
 (.call con_ff (Ar.mk x.threads.n x.threads.get) fun (y1 : R_ff) =>
 (.need ((true && true) && (Nat.beq x.threads.n x.threads.n)) <|
 (.need ((true && true) && (Nat.beq y1.n y1.n)) <|
 (.Ac S_f4_5 D_f4_5 (X_f4_5.mk ((y1.n : Nat) : Int) 0 x (TSt.mk y1 (Sl.mk true 0 (fun _i2 => (TRs.mk 0 (Sl.mk true 0 (fun _i3 => (0 : Int))) false (Sl.mk true 0 (fun _i3 => (TSo.mk 0 0 0)))))) x.now x.reads x.ended))))))
theorem sd_f4 (x : X_f4) : (tt_f4 x).AH :=
 (TT.sC fun _ => (TT.sN (TT.sN TT.sJ)))
theorem roT_f4 (x : X_f4) : TT.Ro p_f4 (w_f4 x) (tt_f4 x) :=
 (TT.rC fun _ => (TT.rN (TT.rN (TT.rJ (ro_f4_5 _)))))
def D_f4 : AV X_f4 R_f4 := .ro (.of tt_f4) (fun y => (y.1)) (fun y x => (y, x)) fun x y h => congrArg (fun o => (y.1, o)) (roT_f4 x y h)
def con_f4 : BC Tryz.prog :=
 Cb 14 J_f4 S_f4 (.of tt_f4) D_f4 (fun y x => (y, x)) (fun y => e_TSt y) 1 1 [.any] (lk mxk (lbc ok_f4_10 rfl (lbc ok_f4_9 rfl (lbc ok_f4_5 rfl lbn))) sd_f4) (fun x => ⟨(nu_e_TFa : ∀ y, (e_TFa y).CB) (x), trivial⟩)
abbrev X_fz : Type := Int × TFa
abbrev R_fz : Type := Bool
abbrev RR_fz : Type := Bool × TFa
abbrev p_fz (y : RR_fz) : TFa := y.2
abbrev w_fz (x : X_fz) : TFa := x.2
def J_fz : BH Tryz.prog :=
 BR Tryz.prog Tryz.f37 57 [] [(2, [.back (.loc 9 0)]), (3, [.back (.loc 9 0)]), (4, [.back (.loc 9 0)]), (5, [.back (.loc 26 0), .back (.loc 22 0), .back (.loc 9 0)]), (6, [.back (.loc 26 0), .back (.loc 22 0), .back (.loc 9 0)]), (7, [.back (.loc 40 0), .back (.loc 36 0), .back (.loc 26 0), .back (.loc 22 0), .back (.loc 9 0)])] [(4, [.Gb (.par 0) [.BN 2 3] 22]), (6, [.Gb (.par 0) [.BN 2 3] 36])] [.back (.loc 40 0), .back (.loc 36 0), .back (.loc 26 0), .back (.loc 22 0), .back (.loc 9 0)] [.any] [sh_TFa] [con_fk, con_f1k] RR_fz [(0, [⟨.loc 22 0, .par 0, [.BN 2 3], none, none⟩, ⟨.loc 36 0, .par 0, [.BN 2 3], none, none⟩])] fun y => [V.bool y.1, e_TFa y.2]
def S_fz : AR :=
 Aj Tryz.f37 2 1 X_fz (fun x => [(V.ptr (.par 0) []), (V.int .i64) x.1, e_TFa x.2]) fun l => (dI (at_ l 1), d_TFa (at_ l 2))
def tt_fz (x : X_fz) : TT Tryz.prog RR_fz :=
 (.need (BA x.fst x.snd.threads.n) <|
 (.need ((Nat.beq x.snd.threads.n x.snd.threads.n) && true) <|
 (.need ((true && true) && (Nat.beq x.snd.threads.n x.snd.threads.n)) <|
 (.ite (Ad (x.snd.threads.get ((0 : Nat) + (Int.toNat x.fst))).Phase 1)
 (.need (BA (x.snd.threads.get ((0 : Nat) + (Int.toNat x.fst))).Ring x.snd.rings.n) <|
 (.need (((Nat.beq x.snd.rings.n x.snd.rings.n) && true) && (!(x.snd.rings.get ((0 : Nat) + (Int.toNat (x.snd.threads.get ((0 : Nat) + (Int.toNat x.fst))).Ring))).nil)) <|
 (.call con_f1k (x.snd.rings.get ((0 : Nat) + (Int.toNat (x.snd.threads.get ((0 : Nat) + (Int.toNat x.fst))).Ring))).x fun (y1 : R_f1k) =>
 (.need ((true && true) && (((Nat.beq x.snd.rings.n x.snd.rings.n) && (Nat.blt ((0 : Nat) + (Int.toNat (x.snd.threads.get ((0 : Nat) + (Int.toNat x.fst))).Ring)) x.snd.rings.n)) && (!(x.snd.rings.get ((0 : Nat) + (Int.toNat (x.snd.threads.get ((0 : Nat) + (Int.toNat x.fst))).Ring))).nil))) <|
 (.side (((fun v : Nat → V => v = v) (fun i2 => (cond (Nat.beq i2 ((0 : Nat) + (Int.toNat (x.snd.threads.get ((0 : Nat) + (Int.toNat x.fst))).Ring))) (V.ptr (Id.loc 26 0) List.nil) (V.Aa (x.snd.rings.get i2).nil (V.cons (V.cons (V.int IntKind.u64 (x.snd.rings.get i2).x.AA.tail) (V.cons (V.Aq 36 1 (x.snd.rings.get i2).x.AA.AB.nil (x.snd.rings.get i2).x.AA.AB.n (fun i3 => (V.int IntKind.u64 ((x.snd.rings.get i2).x.AA.AB.get i3)))) V.unit)) (V.cons (V.Aa (x.snd.rings.get i2).x.s.nil (V.cons (V.Aq 115 3 (x.snd.rings.get i2).x.s.x.l.nil (x.snd.rings.get i2).x.s.x.l.n (fun i3 => (V.cons (V.int IntKind.u64 ((x.snd.rings.get i2).x.s.x.l.get i3).AQ) (V.cons (V.int IntKind.u64 ((x.snd.rings.get i2).x.s.x.l.get i3).Value) (V.cons (V.int IntKind.i64 ((x.snd.rings.get i2).x.s.x.l.get i3).Left) V.unit))))) (V.cons (V.int IntKind.i64 (x.snd.rings.get i2).x.s.x.AP) V.unit))) (V.cons (V.int IntKind.u64 (x.snd.rings.get i2).x.most) (V.cons (V.bool (x.snd.rings.get i2).x.closed) V.unit)))))))) ∧ (((fun v : V => v = v) (V.cons (V.cons (V.int IntKind.u64 (x.snd.rings.get ((0 : Nat) + (Int.toNat (x.snd.threads.get ((0 : Nat) + (Int.toNat x.fst))).Ring))).x.AA.tail) (V.cons (V.Aq 36 1 (x.snd.rings.get ((0 : Nat) + (Int.toNat (x.snd.threads.get ((0 : Nat) + (Int.toNat x.fst))).Ring))).x.AA.AB.nil (x.snd.rings.get ((0 : Nat) + (Int.toNat (x.snd.threads.get ((0 : Nat) + (Int.toNat x.fst))).Ring))).x.AA.AB.n (fun i2 => (V.int IntKind.u64 ((x.snd.rings.get ((0 : Nat) + (Int.toNat (x.snd.threads.get ((0 : Nat) + (Int.toNat x.fst))).Ring))).x.AA.AB.get i2)))) V.unit)) (V.cons (V.Aa (x.snd.rings.get ((0 : Nat) + (Int.toNat (x.snd.threads.get ((0 : Nat) + (Int.toNat x.fst))).Ring))).x.s.nil (V.cons (V.Aq 115 3 (x.snd.rings.get ((0 : Nat) + (Int.toNat (x.snd.threads.get ((0 : Nat) + (Int.toNat x.fst))).Ring))).x.s.x.l.nil (x.snd.rings.get ((0 : Nat) + (Int.toNat (x.snd.threads.get ((0 : Nat) + (Int.toNat x.fst))).Ring))).x.s.x.l.n (fun i2 => (V.cons (V.int IntKind.u64 ((x.snd.rings.get ((0 : Nat) + (Int.toNat (x.snd.threads.get ((0 : Nat) + (Int.toNat x.fst))).Ring))).x.s.x.l.get i2).AQ) (V.cons (V.int IntKind.u64 ((x.snd.rings.get ((0 : Nat) + (Int.toNat (x.snd.threads.get ((0 : Nat) + (Int.toNat x.fst))).Ring))).x.s.x.l.get i2).Value) (V.cons (V.int IntKind.i64 ((x.snd.rings.get ((0 : Nat) + (Int.toNat (x.snd.threads.get ((0 : Nat) + (Int.toNat x.fst))).Ring))).x.s.x.l.get i2).Left) V.unit))))) (V.cons (V.int IntKind.i64 (x.snd.rings.get ((0 : Nat) + (Int.toNat (x.snd.threads.get ((0 : Nat) + (Int.toNat x.fst))).Ring))).x.s.x.AP) V.unit))) (V.cons (V.int IntKind.u64 (x.snd.rings.get ((0 : Nat) + (Int.toNat (x.snd.threads.get ((0 : Nat) + (Int.toNat x.fst))).Ring))).x.most) (V.cons (V.bool (x.snd.rings.get ((0 : Nat) + (Int.toNat (x.snd.threads.get ((0 : Nat) + (Int.toNat x.fst))).Ring))).x.closed) V.unit))))) ∧ ((fun v : V => v = v) (V.Aa (x.snd.rings.get ((0 : Nat) + (Int.toNat (x.snd.threads.get ((0 : Nat) + (Int.toNat x.fst))).Ring))).nil (V.cons (V.cons (V.int IntKind.u64 (x.snd.rings.get ((0 : Nat) + (Int.toNat (x.snd.threads.get ((0 : Nat) + (Int.toNat x.fst))).Ring))).x.AA.tail) (V.cons (V.Aq 36 1 (x.snd.rings.get ((0 : Nat) + (Int.toNat (x.snd.threads.get ((0 : Nat) + (Int.toNat x.fst))).Ring))).x.AA.AB.nil (x.snd.rings.get ((0 : Nat) + (Int.toNat (x.snd.threads.get ((0 : Nat) + (Int.toNat x.fst))).Ring))).x.AA.AB.n (fun i2 => (V.int IntKind.u64 ((x.snd.rings.get ((0 : Nat) + (Int.toNat (x.snd.threads.get ((0 : Nat) + (Int.toNat x.fst))).Ring))).x.AA.AB.get i2)))) V.unit)) (V.cons (V.Aa (x.snd.rings.get ((0 : Nat) + (Int.toNat (x.snd.threads.get ((0 : Nat) + (Int.toNat x.fst))).Ring))).x.s.nil (V.cons (V.Aq 115 3 (x.snd.rings.get ((0 : Nat) + (Int.toNat (x.snd.threads.get ((0 : Nat) + (Int.toNat x.fst))).Ring))).x.s.x.l.nil (x.snd.rings.get ((0 : Nat) + (Int.toNat (x.snd.threads.get ((0 : Nat) + (Int.toNat x.fst))).Ring))).x.s.x.l.n (fun i2 => (V.cons (V.int IntKind.u64 ((x.snd.rings.get ((0 : Nat) + (Int.toNat (x.snd.threads.get ((0 : Nat) + (Int.toNat x.fst))).Ring))).x.s.x.l.get i2).AQ) (V.cons (V.int IntKind.u64 ((x.snd.rings.get ((0 : Nat) + (Int.toNat (x.snd.threads.get ((0 : Nat) + (Int.toNat x.fst))).Ring))).x.s.x.l.get i2).Value) (V.cons (V.int IntKind.i64 ((x.snd.rings.get ((0 : Nat) + (Int.toNat (x.snd.threads.get ((0 : Nat) + (Int.toNat x.fst))).Ring))).x.s.x.l.get i2).Left) V.unit))))) (V.cons (V.int IntKind.i64 (x.snd.rings.get ((0 : Nat) + (Int.toNat (x.snd.threads.get ((0 : Nat) + (Int.toNat x.fst))).Ring))).x.s.x.AP) V.unit))) (V.cons (V.int IntKind.u64 (x.snd.rings.get ((0 : Nat) + (Int.toNat (x.snd.threads.get ((0 : Nat) + (Int.toNat x.fst))).Ring))).x.most) (V.cons (V.bool (x.snd.rings.get ((0 : Nat) + (Int.toNat (x.snd.threads.get ((0 : Nat) + (Int.toNat x.fst))).Ring))).x.closed) V.unit)))))))) <|
 (.need ((true && true) && (Nat.beq x.snd.rings.n x.snd.rings.n)) <|
 (.ret ((Bu (x.snd.threads.get ((0 : Nat) + (Int.toNat x.fst))).AJ y1), x.snd))))))))
 (.ite (Ad (x.snd.threads.get ((0 : Nat) + (Int.toNat x.fst))).Phase 2)
 (.need (BA (x.snd.threads.get ((0 : Nat) + (Int.toNat x.fst))).Ring x.snd.rings.n) <|
 (.need (((Nat.beq x.snd.rings.n x.snd.rings.n) && true) && (!(x.snd.rings.get ((0 : Nat) + (Int.toNat (x.snd.threads.get ((0 : Nat) + (Int.toNat x.fst))).Ring))).nil)) <|
 (.need (BA x.fst x.snd.p.AD.n) <|
 (.need (BA (x.snd.threads.get ((0 : Nat) + (Int.toNat x.fst))).At (x.snd.p.AD.get (Int.toNat x.fst)).n) <|
 (.call con_fk ((IntKind.i64.wrap ((x.snd.p.AD.get (Int.toNat x.fst)).get (Int.toNat (x.snd.threads.get ((0 : Nat) + (Int.toNat x.fst))).At)).K), (x.snd.rings.get ((0 : Nat) + (Int.toNat (x.snd.threads.get ((0 : Nat) + (Int.toNat x.fst))).Ring))).x) fun (y1 : R_fk) =>
 (.need ((true && true) && (((Nat.beq x.snd.rings.n x.snd.rings.n) && (Nat.blt ((0 : Nat) + (Int.toNat (x.snd.threads.get ((0 : Nat) + (Int.toNat x.fst))).Ring)) x.snd.rings.n)) && (!(x.snd.rings.get ((0 : Nat) + (Int.toNat (x.snd.threads.get ((0 : Nat) + (Int.toNat x.fst))).Ring))).nil))) <|
 (.side (((fun v : Nat → V => v = v) (fun i2 => (cond (Nat.beq i2 ((0 : Nat) + (Int.toNat (x.snd.threads.get ((0 : Nat) + (Int.toNat x.fst))).Ring))) (V.ptr (Id.loc 40 0) List.nil) (V.Aa (x.snd.rings.get i2).nil (V.cons (V.cons (V.int IntKind.u64 (x.snd.rings.get i2).x.AA.tail) (V.cons (V.Aq 36 1 (x.snd.rings.get i2).x.AA.AB.nil (x.snd.rings.get i2).x.AA.AB.n (fun i3 => (V.int IntKind.u64 ((x.snd.rings.get i2).x.AA.AB.get i3)))) V.unit)) (V.cons (V.Aa (x.snd.rings.get i2).x.s.nil (V.cons (V.Aq 115 3 (x.snd.rings.get i2).x.s.x.l.nil (x.snd.rings.get i2).x.s.x.l.n (fun i3 => (V.cons (V.int IntKind.u64 ((x.snd.rings.get i2).x.s.x.l.get i3).AQ) (V.cons (V.int IntKind.u64 ((x.snd.rings.get i2).x.s.x.l.get i3).Value) (V.cons (V.int IntKind.i64 ((x.snd.rings.get i2).x.s.x.l.get i3).Left) V.unit))))) (V.cons (V.int IntKind.i64 (x.snd.rings.get i2).x.s.x.AP) V.unit))) (V.cons (V.int IntKind.u64 (x.snd.rings.get i2).x.most) (V.cons (V.bool (x.snd.rings.get i2).x.closed) V.unit)))))))) ∧ (((fun v : V => v = v) (V.cons (V.cons (V.int IntKind.u64 (x.snd.rings.get ((0 : Nat) + (Int.toNat (x.snd.threads.get ((0 : Nat) + (Int.toNat x.fst))).Ring))).x.AA.tail) (V.cons (V.Aq 36 1 (x.snd.rings.get ((0 : Nat) + (Int.toNat (x.snd.threads.get ((0 : Nat) + (Int.toNat x.fst))).Ring))).x.AA.AB.nil (x.snd.rings.get ((0 : Nat) + (Int.toNat (x.snd.threads.get ((0 : Nat) + (Int.toNat x.fst))).Ring))).x.AA.AB.n (fun i2 => (V.int IntKind.u64 ((x.snd.rings.get ((0 : Nat) + (Int.toNat (x.snd.threads.get ((0 : Nat) + (Int.toNat x.fst))).Ring))).x.AA.AB.get i2)))) V.unit)) (V.cons (V.Aa (x.snd.rings.get ((0 : Nat) + (Int.toNat (x.snd.threads.get ((0 : Nat) + (Int.toNat x.fst))).Ring))).x.s.nil (V.cons (V.Aq 115 3 (x.snd.rings.get ((0 : Nat) + (Int.toNat (x.snd.threads.get ((0 : Nat) + (Int.toNat x.fst))).Ring))).x.s.x.l.nil (x.snd.rings.get ((0 : Nat) + (Int.toNat (x.snd.threads.get ((0 : Nat) + (Int.toNat x.fst))).Ring))).x.s.x.l.n (fun i2 => (V.cons (V.int IntKind.u64 ((x.snd.rings.get ((0 : Nat) + (Int.toNat (x.snd.threads.get ((0 : Nat) + (Int.toNat x.fst))).Ring))).x.s.x.l.get i2).AQ) (V.cons (V.int IntKind.u64 ((x.snd.rings.get ((0 : Nat) + (Int.toNat (x.snd.threads.get ((0 : Nat) + (Int.toNat x.fst))).Ring))).x.s.x.l.get i2).Value) (V.cons (V.int IntKind.i64 ((x.snd.rings.get ((0 : Nat) + (Int.toNat (x.snd.threads.get ((0 : Nat) + (Int.toNat x.fst))).Ring))).x.s.x.l.get i2).Left) V.unit))))) (V.cons (V.int IntKind.i64 (x.snd.rings.get ((0 : Nat) + (Int.toNat (x.snd.threads.get ((0 : Nat) + (Int.toNat x.fst))).Ring))).x.s.x.AP) V.unit))) (V.cons (V.int IntKind.u64 (x.snd.rings.get ((0 : Nat) + (Int.toNat (x.snd.threads.get ((0 : Nat) + (Int.toNat x.fst))).Ring))).x.most) (V.cons (V.bool (x.snd.rings.get ((0 : Nat) + (Int.toNat (x.snd.threads.get ((0 : Nat) + (Int.toNat x.fst))).Ring))).x.closed) V.unit))))) ∧ ((fun v : V => v = v) (V.Aa (x.snd.rings.get ((0 : Nat) + (Int.toNat (x.snd.threads.get ((0 : Nat) + (Int.toNat x.fst))).Ring))).nil (V.cons (V.cons (V.int IntKind.u64 (x.snd.rings.get ((0 : Nat) + (Int.toNat (x.snd.threads.get ((0 : Nat) + (Int.toNat x.fst))).Ring))).x.AA.tail) (V.cons (V.Aq 36 1 (x.snd.rings.get ((0 : Nat) + (Int.toNat (x.snd.threads.get ((0 : Nat) + (Int.toNat x.fst))).Ring))).x.AA.AB.nil (x.snd.rings.get ((0 : Nat) + (Int.toNat (x.snd.threads.get ((0 : Nat) + (Int.toNat x.fst))).Ring))).x.AA.AB.n (fun i2 => (V.int IntKind.u64 ((x.snd.rings.get ((0 : Nat) + (Int.toNat (x.snd.threads.get ((0 : Nat) + (Int.toNat x.fst))).Ring))).x.AA.AB.get i2)))) V.unit)) (V.cons (V.Aa (x.snd.rings.get ((0 : Nat) + (Int.toNat (x.snd.threads.get ((0 : Nat) + (Int.toNat x.fst))).Ring))).x.s.nil (V.cons (V.Aq 115 3 (x.snd.rings.get ((0 : Nat) + (Int.toNat (x.snd.threads.get ((0 : Nat) + (Int.toNat x.fst))).Ring))).x.s.x.l.nil (x.snd.rings.get ((0 : Nat) + (Int.toNat (x.snd.threads.get ((0 : Nat) + (Int.toNat x.fst))).Ring))).x.s.x.l.n (fun i2 => (V.cons (V.int IntKind.u64 ((x.snd.rings.get ((0 : Nat) + (Int.toNat (x.snd.threads.get ((0 : Nat) + (Int.toNat x.fst))).Ring))).x.s.x.l.get i2).AQ) (V.cons (V.int IntKind.u64 ((x.snd.rings.get ((0 : Nat) + (Int.toNat (x.snd.threads.get ((0 : Nat) + (Int.toNat x.fst))).Ring))).x.s.x.l.get i2).Value) (V.cons (V.int IntKind.i64 ((x.snd.rings.get ((0 : Nat) + (Int.toNat (x.snd.threads.get ((0 : Nat) + (Int.toNat x.fst))).Ring))).x.s.x.l.get i2).Left) V.unit))))) (V.cons (V.int IntKind.i64 (x.snd.rings.get ((0 : Nat) + (Int.toNat (x.snd.threads.get ((0 : Nat) + (Int.toNat x.fst))).Ring))).x.s.x.AP) V.unit))) (V.cons (V.int IntKind.u64 (x.snd.rings.get ((0 : Nat) + (Int.toNat (x.snd.threads.get ((0 : Nat) + (Int.toNat x.fst))).Ring))).x.most) (V.cons (V.bool (x.snd.rings.get ((0 : Nat) + (Int.toNat (x.snd.threads.get ((0 : Nat) + (Int.toNat x.fst))).Ring))).x.closed) V.unit)))))))) <|
 (.need ((true && true) && (Nat.beq x.snd.rings.n x.snd.rings.n)) <|
 (.ret ((Bu (x.snd.threads.get ((0 : Nat) + (Int.toNat x.fst))).AJ y1), x.snd))))))))))
 (.ret (true, x.snd)))))))
theorem sd_fz (x : X_fz) : (tt_fz x).AH :=
 (TT.sN (TT.sN (TT.sN (TT.sI (TT.sN (TT.sN (TT.sC fun _ => (TT.sN (TT.sS ⟨rfl, ⟨rfl, rfl⟩⟩ (TT.sN TT.sR)))))) (TT.sI (TT.sN (TT.sN (TT.sN (TT.sN (TT.sC fun _ => (TT.sN (TT.sS ⟨rfl, ⟨rfl, rfl⟩⟩ (TT.sN TT.sR)))))))) TT.sR)))))
theorem roT_fz (x : X_fz) : TT.Ro p_fz (w_fz x) (tt_fz x) :=
 (TT.rN (TT.rN (TT.rN (TT.rI (TT.rN (TT.rN (TT.rC fun _ => (TT.rN (TT.rS (TT.rN (TT.rR rfl))))))) (TT.rI (TT.rN (TT.rN (TT.rN (TT.rN (TT.rC fun _ => (TT.rN (TT.rS (TT.rN (TT.rR rfl))))))))) (TT.rR rfl))))))
def D_fz : AV X_fz R_fz := .ro (.of tt_fz) (fun y => (y.1)) (fun y x => (y, x.2)) fun x y h => congrArg (fun o => (y.1, o)) (roT_fz x y h)
def con_fz : BC Tryz.prog :=
 Cb 37 J_fz S_fz (.of tt_fz) D_fz (fun y x => (y, x.2)) (fun y => V.bool y) 2 1 [.any, .any] (lk mxk lbn sd_fz) (fun x => ⟨(nu_e_TFa : ∀ y, (e_TFa y).CB) (x.2), trivial⟩)
abbrev X_f8 : Type := TPg × TSt
abbrev R_f8 : Type := (Bx TFa) × Int
def J_f8 : BH Tryz.prog :=
 BR Tryz.prog Tryz.f15 123 [(2, 3), (3, 3), (12, 1), (64, 1), (122, 1)] [(6, [.open_ 6]), (8, [.close (.loc 68 0)]), (9, [.close (.loc 68 0)]), (10, [.close (.loc 68 0)]), (11, [.close (.loc 68 0)]), (12, [.close (.loc 68 0)]), (13, [.close (.loc 68 0)]), (14, [.close (.loc 68 0)]), (15, [.close (.loc 103 0), .close (.loc 68 0)]), (16, [.close (.loc 103 0), .close (.loc 68 0)]), (17, [.close (.loc 103 0), .close (.loc 68 0)]), (18, [.close (.loc 103 0), .close (.loc 68 0)]), (19, [.close (.loc 103 0), .close (.loc 68 0)]), (20, [.close (.loc 103 0), .close (.loc 68 0)]), (21, [.close (.loc 103 0), .close (.loc 68 0)]), (22, [.close (.loc 103 0), .close (.loc 68 0)])] [(10, [.Gb (.loc 6 1) [.BN 2 3] 68]), (18, [.Gb (.loc 6 1) [.BN 1 2] 103])] [.close (.loc 103 0), .close (.loc 68 0), .D8 4] [hbox_TFa, .any] [] [con_fz, con_f10, con_fb, con_f1a, con_fl] R_f8 [(0, [⟨.loc 68 0, .loc 6 1, [.BN 2 3], none, none⟩, ⟨.loc 103 0, .loc 6 1, [.BN 1 2], none, none⟩]), (6, [⟨.loc 68 0, .loc 6 1, [.BN 2 3], none, none⟩, ⟨.loc 103 0, .loc 6 1, [.BN 1 2], none, none⟩]), (8, [⟨.loc 68 0, .loc 6 1, [.BN 2 3], none, none⟩, ⟨.loc 103 0, .loc 6 1, [.BN 1 2], none, none⟩]), (13, [⟨.loc 68 0, .loc 6 1, [.BN 2 3], none, none⟩, ⟨.loc 103 0, .loc 6 1, [.BN 1 2], none, none⟩]), (14, [⟨.loc 68 0, .loc 6 1, [.BN 2 3], none, none⟩, ⟨.loc 103 0, .loc 6 1, [.BN 1 2], none, none⟩]), (15, [⟨.loc 68 0, .loc 6 1, [.BN 2 3], none, none⟩, ⟨.loc 103 0, .loc 6 1, [.BN 1 2], none, none⟩]), (21, [⟨.loc 68 0, .loc 6 1, [.BN 2 3], none, none⟩, ⟨.loc 103 0, .loc 6 1, [.BN 1 2], none, none⟩])] fun y => [V.CG (V.cons (ebox_TFa y.1) (V.cons ((V.int .i64) y.2) (V.unit)))]
def S_f8 : AR :=
 Aj Tryz.f15 2 0 X_f8 (fun x => [e_TPg x.1, e_TSt x.2]) fun l => (d_TPg (at_ l 0), d_TSt (at_ l 1))
structure X_f8_6 where
 Dj : TPg
 Dx : TSt
 BG : TFa
def S_f8_6 : AR :=
 Ak Tryz.f15 6 (an [2, 3, 6]) [] [(.loc 6 1, sh_TFa)] X_f8_6 (fun x => [(DQ e_TPg) x.Dj, (DQ e_TSt) x.Dx, (V.ptr (.loc 6 1) []), e_TFa x.BG]) fun l => ⟨(DR d_TPg) (at_ l 0), (DR d_TSt) (at_ l 1), d_TFa (at_ l 3)⟩
structure X_f8_8 where
 Dj : TPg
 Dx : TSt
 Lz : (Sl TRs)
 Oc : Int
 Dq : Int
 BG : TFa
def S_f8_8 : AR :=
 Ak Tryz.f15 8 [(2, .any), (3, .any), (6, .any), (57, hsl_TRs), (58, .any), (59, .any)] [] [(.loc 6 1, sh_TFa)] X_f8_8 (fun x => [(DQ e_TPg) x.Dj, (DQ e_TSt) x.Dx, (V.ptr (.loc 6 1) []), esl_TRs x.Lz, (V.int .i64) x.Oc, (V.int .i64) x.Dq, e_TFa x.BG]) fun l => ⟨(DR d_TPg) (at_ l 0), (DR d_TSt) (at_ l 1), dsl_TRs (at_ l 3), dI (at_ l 4), dI (at_ l 5), d_TFa (at_ l 6)⟩
structure X_f8_13 where
 Dj : TPg
 Dx : TSt
 Lz : (Sl TRs)
 Oc : Int
 Dq : Int
 BG : TFa
def S_f8_13 : AR :=
 Ak Tryz.f15 13 [(2, .any), (3, .any), (6, .any), (57, hsl_TRs), (58, .any), (59, .any)] [] [(.loc 6 1, sh_TFa)] X_f8_13 (fun x => [(DQ e_TPg) x.Dj, (DQ e_TSt) x.Dx, (V.ptr (.loc 6 1) []), esl_TRs x.Lz, (V.int .i64) x.Oc, (V.int .i64) x.Dq, e_TFa x.BG]) fun l => ⟨(DR d_TPg) (at_ l 0), (DR d_TSt) (at_ l 1), dsl_TRs (at_ l 3), dI (at_ l 4), dI (at_ l 5), d_TFa (at_ l 6)⟩
structure X_f8_14 where
 Dj : TPg
 Dx : TSt
 BG : TFa
def S_f8_14 : AR :=
 Ak Tryz.f15 14 (an [2, 3, 6]) [] [(.loc 6 1, sh_TFa)] X_f8_14 (fun x => [(DQ e_TPg) x.Dj, (DQ e_TSt) x.Dx, (V.ptr (.loc 6 1) []), e_TFa x.BG]) fun l => ⟨(DR d_TPg) (at_ l 0), (DR d_TSt) (at_ l 1), d_TFa (at_ l 3)⟩
structure X_f8_15 where
 Dj : TPg
 Dz : (Sl TTh)
 OZ : Int
 Bm : Int
 BG : TFa
def S_f8_15 : AR :=
 Ak Tryz.f15 15 [(2, .any), (6, .any), (89, hsl_TTh), (90, .any), (91, .any)] [] [(.loc 6 1, sh_TFa)] X_f8_15 (fun x => [(DQ e_TPg) x.Dj, (V.ptr (.loc 6 1) []), esl_TTh x.Dz, (V.int .i64) x.OZ, (V.int .i64) x.Bm, e_TFa x.BG]) fun l => ⟨(DR d_TPg) (at_ l 0), dsl_TTh (at_ l 2), dI (at_ l 3), dI (at_ l 4), d_TFa (at_ l 5)⟩
structure X_f8_21 where
 Dj : TPg
 Dz : (Sl TTh)
 OZ : Int
 Bm : Int
 BG : TFa
def S_f8_21 : AR :=
 Ak Tryz.f15 21 [(2, .any), (6, .any), (89, hsl_TTh), (90, .any), (91, .any)] [] [(.loc 6 1, sh_TFa)] X_f8_21 (fun x => [(DQ e_TPg) x.Dj, (V.ptr (.loc 6 1) []), esl_TTh x.Dz, (V.int .i64) x.OZ, (V.int .i64) x.Bm, e_TFa x.BG]) fun l => ⟨(DR d_TPg) (at_ l 0), dsl_TTh (at_ l 2), dI (at_ l 3), dI (at_ l 4), d_TFa (at_ l 5)⟩
def tt_f8_21 (D_f8_15 : AV X_f8_15 R_f8) (x : X_f8_21) : TT Tryz.prog R_f8 :=
 (.Ac S_f8_15 D_f8_15 (X_f8_15.mk x.Dj x.Dz x.OZ (IntKind.i64.wrap (x.Bm + 1)) x.BG))
theorem sd_f8_21 (D_f8_15 : AV X_f8_15 R_f8) (x : X_f8_21) : (tt_f8_21 D_f8_15 x).AH :=
 TT.sJ
def D_f8_21 (D_f8_15 : AV X_f8_15 R_f8) : AV X_f8_21 R_f8 := .of (tt_f8_21 D_f8_15)
theorem ok_f8_21 (D_f8_15 : AV X_f8_15 R_f8) (h_15 : AZ J_f8 S_f8_15 D_f8_15) : AZ J_f8 S_f8_21 (D_f8_21 D_f8_15) :=
 lk mxk (lbc h_15 rfl lbn) (sd_f8_21 D_f8_15)
def tt_f8_15 (D_f8_15 : AV X_f8_15 R_f8) (x : X_f8_15) : TT Tryz.prog R_f8 :=
 (.ite (Bu x.Bm x.OZ)
 (.need (BA x.Bm x.Dz.n) <|
 (.call con_f1a (x.Dz.get (Int.toNat x.Bm)).Seen fun (y2 : R_f1a) =>
 (.need (BA x.Bm x.BG.threads.n) <|
 (.need ((Nat.beq x.BG.threads.n x.BG.threads.n) && true) <|
 (.need ((true && true) && (Nat.beq x.BG.threads.n x.BG.threads.n)) <|
 (.need (BA x.Bm x.Dj.AD.n) <|
 (.call con_fl ((x.Dj.AD.get (Int.toNat x.Bm)), (TTh.mk (x.Dz.get (Int.toNat x.Bm)).At (x.Dz.get (Int.toNat x.Bm)).Phase (x.Dz.get (Int.toNat x.Bm)).Ring (x.Dz.get (Int.toNat x.Bm)).Status (x.Dz.get (Int.toNat x.Bm)).AJ (x.Dz.get (Int.toNat x.Bm)).Ao y2)) fun (y3 : R_fl) =>
 (.ite (!y3)
 (.ret ((Bx.mk true (TFa.mk (TPg.mk (Sl.mk true 0 (fun _i4 => (TRg.mk 0 0 0))) (Sl.mk true 0 (fun _i4 => (Sl.mk true 0 (fun _i5 => (TIn.mk 0 0 0 0 0 0)))))) (Sl.mk true 0 (fun _i4 => (TTh.mk 0 0 0 0 0 (fun _i5 => (0 : Int)) (Sl.mk true 0 (fun _i5 => (0 : Int)))))) (Sl.mk true 0 (fun _i4 => (Bx.mk true (TRr.mk (TRc.mk 0 (Sl.mk true 0 (fun _i5 => (0 : Int)))) (Bx.mk true (TSs.mk (Sl.mk true 0 (fun _i5 => (TSo.mk 0 0 0))) 0)) 0 false)))) 0 0 false)), 3))
 (.call con_fz (x.Bm, (TFa.mk x.BG.p (Sl.mk x.BG.threads.nil x.BG.threads.n (fun i4 => (TTh.mk (cond (Nat.beq i4 ((0 : Nat) + (Int.toNat x.Bm))) (x.Dz.get (Int.toNat x.Bm)).At (x.BG.threads.get i4).At) (cond (Nat.beq i4 ((0 : Nat) + (Int.toNat x.Bm))) (x.Dz.get (Int.toNat x.Bm)).Phase (x.BG.threads.get i4).Phase) (cond (Nat.beq i4 ((0 : Nat) + (Int.toNat x.Bm))) (x.Dz.get (Int.toNat x.Bm)).Ring (x.BG.threads.get i4).Ring) (cond (Nat.beq i4 ((0 : Nat) + (Int.toNat x.Bm))) (x.Dz.get (Int.toNat x.Bm)).Status (x.BG.threads.get i4).Status) (cond (Nat.beq i4 ((0 : Nat) + (Int.toNat x.Bm))) (x.Dz.get (Int.toNat x.Bm)).AJ (x.BG.threads.get i4).AJ) (fun i5 => (cond (Nat.beq i4 ((0 : Nat) + (Int.toNat x.Bm))) ((x.Dz.get (Int.toNat x.Bm)).Ao i5) ((x.BG.threads.get i4).Ao i5))) (Sl.mk (cond (Nat.beq i4 ((0 : Nat) + (Int.toNat x.Bm))) y2.nil (x.BG.threads.get i4).Seen.nil) (cond (Nat.beq i4 ((0 : Nat) + (Int.toNat x.Bm))) y2.n (x.BG.threads.get i4).Seen.n) (fun i5 => (cond (Nat.beq i4 ((0 : Nat) + (Int.toNat x.Bm))) (y2.get i5) ((x.BG.threads.get i4).Seen.get i5))))))) x.BG.rings x.BG.now x.BG.reads x.BG.ended)) fun (y4 : R_fz) =>
 (.ite (!y4)
 (.ret ((Bx.mk true (TFa.mk (TPg.mk (Sl.mk true 0 (fun _i5 => (TRg.mk 0 0 0))) (Sl.mk true 0 (fun _i5 => (Sl.mk true 0 (fun _i6 => (TIn.mk 0 0 0 0 0 0)))))) (Sl.mk true 0 (fun _i5 => (TTh.mk 0 0 0 0 0 (fun _i6 => (0 : Int)) (Sl.mk true 0 (fun _i6 => (0 : Int)))))) (Sl.mk true 0 (fun _i5 => (Bx.mk true (TRr.mk (TRc.mk 0 (Sl.mk true 0 (fun _i6 => (0 : Int)))) (Bx.mk true (TSs.mk (Sl.mk true 0 (fun _i6 => (TSo.mk 0 0 0))) 0)) 0 false)))) 0 0 false)), 3))
 (.Ac S_f8_21 (D_f8_21 D_f8_15) (X_f8_21.mk x.Dj x.Dz x.OZ x.Bm (TFa.mk x.BG.p (Sl.mk x.BG.threads.nil x.BG.threads.n (fun i5 => (TTh.mk (cond (Nat.beq i5 ((0 : Nat) + (Int.toNat x.Bm))) (x.Dz.get (Int.toNat x.Bm)).At (x.BG.threads.get i5).At) (cond (Nat.beq i5 ((0 : Nat) + (Int.toNat x.Bm))) (x.Dz.get (Int.toNat x.Bm)).Phase (x.BG.threads.get i5).Phase) (cond (Nat.beq i5 ((0 : Nat) + (Int.toNat x.Bm))) (x.Dz.get (Int.toNat x.Bm)).Ring (x.BG.threads.get i5).Ring) (cond (Nat.beq i5 ((0 : Nat) + (Int.toNat x.Bm))) (x.Dz.get (Int.toNat x.Bm)).Status (x.BG.threads.get i5).Status) (cond (Nat.beq i5 ((0 : Nat) + (Int.toNat x.Bm))) (x.Dz.get (Int.toNat x.Bm)).AJ (x.BG.threads.get i5).AJ) (fun i6 => (cond (Nat.beq i5 ((0 : Nat) + (Int.toNat x.Bm))) ((x.Dz.get (Int.toNat x.Bm)).Ao i6) ((x.BG.threads.get i5).Ao i6))) (Sl.mk (cond (Nat.beq i5 ((0 : Nat) + (Int.toNat x.Bm))) y2.nil (x.BG.threads.get i5).Seen.nil) (cond (Nat.beq i5 ((0 : Nat) + (Int.toNat x.Bm))) y2.n (x.BG.threads.get i5).Seen.n) (fun i6 => (cond (Nat.beq i5 ((0 : Nat) + (Int.toNat x.Bm))) (y2.get i6) ((x.BG.threads.get i5).Seen.get i6))))))) x.BG.rings x.BG.now x.BG.reads x.BG.ended)))))))))))))
 (.ret ((Bx.mk false x.BG), 0)))
theorem sd_f8_15 (D_f8_15 : AV X_f8_15 R_f8) (x : X_f8_15) : (tt_f8_15 D_f8_15 x).AH :=
 (TT.sI (TT.sN (TT.sC fun _ => (TT.sN (TT.sN (TT.sN (TT.sN (TT.sC fun _ => (TT.sI TT.sR (TT.sC fun _ => (TT.sI TT.sR TT.sJ)))))))))) TT.sR)
def D_f8_15 : AV X_f8_15 R_f8 := AV.loop tt_f8_15
theorem ok_f8_15 : AZ J_f8 S_f8_15 D_f8_15 :=
 BF fun D_f8_15 h_15 => lk mxk (lbc h_15 rfl (lbc (ok_f8_21 D_f8_15 h_15) rfl lbn)) (sd_f8_15 D_f8_15)
def tt_f8_14 (x : X_f8_14) : TT Tryz.prog R_f8 :=
 (.Ac S_f8_15 D_f8_15 (X_f8_15.mk x.Dj x.Dx.AD ((x.Dx.AD.n : Nat) : Int) 0 x.BG))
theorem sd_f8_14 (x : X_f8_14) : (tt_f8_14 x).AH :=
 TT.sJ
def D_f8_14 : AV X_f8_14 R_f8 := .of tt_f8_14
theorem ok_f8_14 : AZ J_f8 S_f8_14 D_f8_14 :=
 lk mxk (lbc ok_f8_15 rfl lbn) sd_f8_14
def tt_f8_13 (D_f8_8 : AV X_f8_8 R_f8) (x : X_f8_13) : TT Tryz.prog R_f8 :=
 (.Ac S_f8_8 D_f8_8 (X_f8_8.mk x.Dj x.Dx x.Lz x.Oc (IntKind.i64.wrap (x.Dq + 1)) x.BG))
theorem sd_f8_13 (D_f8_8 : AV X_f8_8 R_f8) (x : X_f8_13) : (tt_f8_13 D_f8_8 x).AH :=
 TT.sJ
def D_f8_13 (D_f8_8 : AV X_f8_8 R_f8) : AV X_f8_13 R_f8 := .of (tt_f8_13 D_f8_8)
theorem ok_f8_13 (D_f8_8 : AV X_f8_8 R_f8) (h_8 : AZ J_f8 S_f8_8 D_f8_8) : AZ J_f8 S_f8_13 (D_f8_13 D_f8_8) :=
 lk mxk (lbc h_8 rfl (lbc ok_f8_15 rfl (lbc ok_f8_14 rfl lbn))) (sd_f8_13 D_f8_8)
def tt_f8_8 (D_f8_8 : AV X_f8_8 R_f8) (x : X_f8_8) : TT Tryz.prog R_f8 :=
 (.ite (Bu x.Dq x.Oc)
 (.need (BA x.Dq x.Lz.n) <|
 (.need (BA x.Dq x.Dj.AK.n) <|
 (.call con_fb ((x.Dj.AK.get (Int.toNat x.Dq)), (x.Lz.get (Int.toNat x.Dq))) fun (y2 : R_fb) =>
 (.need (BA x.Dq x.BG.rings.n) <|
 (.need ((Nat.beq x.BG.rings.n x.BG.rings.n) && true) <|
 (.need ((true && true) && (Nat.beq x.BG.rings.n x.BG.rings.n)) <|
 (.ite (!(Ad y2.snd 0))
 (.ret ((Bx.mk true (TFa.mk (TPg.mk (Sl.mk true 0 (fun _i3 => (TRg.mk 0 0 0))) (Sl.mk true 0 (fun _i3 => (Sl.mk true 0 (fun _i4 => (TIn.mk 0 0 0 0 0 0)))))) (Sl.mk true 0 (fun _i3 => (TTh.mk 0 0 0 0 0 (fun _i4 => (0 : Int)) (Sl.mk true 0 (fun _i4 => (0 : Int)))))) (Sl.mk true 0 (fun _i3 => (Bx.mk true (TRr.mk (TRc.mk 0 (Sl.mk true 0 (fun _i4 => (0 : Int)))) (Bx.mk true (TSs.mk (Sl.mk true 0 (fun _i4 => (TSo.mk 0 0 0))) 0)) 0 false)))) 0 0 false)), 3))
 (.ite (Bh 2305843009213693952 (x.Lz.get (Int.toNat x.Dq)).A4)
 (.ret ((Bx.mk true (TFa.mk (TPg.mk (Sl.mk true 0 (fun _i3 => (TRg.mk 0 0 0))) (Sl.mk true 0 (fun _i3 => (Sl.mk true 0 (fun _i4 => (TIn.mk 0 0 0 0 0 0)))))) (Sl.mk true 0 (fun _i3 => (TTh.mk 0 0 0 0 0 (fun _i4 => (0 : Int)) (Sl.mk true 0 (fun _i4 => (0 : Int)))))) (Sl.mk true 0 (fun _i3 => (Bx.mk true (TRr.mk (TRc.mk 0 (Sl.mk true 0 (fun _i4 => (0 : Int)))) (Bx.mk true (TSs.mk (Sl.mk true 0 (fun _i4 => (TSo.mk 0 0 0))) 0)) 0 false)))) 0 0 false)), 3))
 (.Ac S_f8_13 (D_f8_13 D_f8_8) (X_f8_13.mk x.Dj x.Dx x.Lz x.Oc x.Dq (TFa.mk x.BG.p x.BG.threads (Sl.mk x.BG.rings.nil x.BG.rings.n (fun i3 => (Bx.mk (cond (Nat.beq i3 ((0 : Nat) + (Int.toNat x.Dq))) y2.fst.nil (x.BG.rings.get i3).nil) (TRr.mk (TRc.mk (cond (Nat.beq i3 ((0 : Nat) + (Int.toNat x.Dq))) y2.fst.x.AA.tail (x.BG.rings.get i3).x.AA.tail) (Sl.mk (cond (Nat.beq i3 ((0 : Nat) + (Int.toNat x.Dq))) y2.fst.x.AA.AB.nil (x.BG.rings.get i3).x.AA.AB.nil) (cond (Nat.beq i3 ((0 : Nat) + (Int.toNat x.Dq))) y2.fst.x.AA.AB.n (x.BG.rings.get i3).x.AA.AB.n) (fun i4 => (cond (Nat.beq i3 ((0 : Nat) + (Int.toNat x.Dq))) (y2.fst.x.AA.AB.get i4) ((x.BG.rings.get i3).x.AA.AB.get i4))))) (Bx.mk (cond (Nat.beq i3 ((0 : Nat) + (Int.toNat x.Dq))) y2.fst.x.s.nil (x.BG.rings.get i3).x.s.nil) (TSs.mk (Sl.mk (cond (Nat.beq i3 ((0 : Nat) + (Int.toNat x.Dq))) y2.fst.x.s.x.l.nil (x.BG.rings.get i3).x.s.x.l.nil) (cond (Nat.beq i3 ((0 : Nat) + (Int.toNat x.Dq))) y2.fst.x.s.x.l.n (x.BG.rings.get i3).x.s.x.l.n) (fun i4 => (TSo.mk (cond (Nat.beq i3 ((0 : Nat) + (Int.toNat x.Dq))) (y2.fst.x.s.x.l.get i4).AQ ((x.BG.rings.get i3).x.s.x.l.get i4).AQ) (cond (Nat.beq i3 ((0 : Nat) + (Int.toNat x.Dq))) (y2.fst.x.s.x.l.get i4).Value ((x.BG.rings.get i3).x.s.x.l.get i4).Value) (cond (Nat.beq i3 ((0 : Nat) + (Int.toNat x.Dq))) (y2.fst.x.s.x.l.get i4).Left ((x.BG.rings.get i3).x.s.x.l.get i4).Left)))) (cond (Nat.beq i3 ((0 : Nat) + (Int.toNat x.Dq))) y2.fst.x.s.x.AP (x.BG.rings.get i3).x.s.x.AP))) (cond (Nat.beq i3 ((0 : Nat) + (Int.toNat x.Dq))) y2.fst.x.most (x.BG.rings.get i3).x.most) (cond (Nat.beq i3 ((0 : Nat) + (Int.toNat x.Dq))) y2.fst.x.closed (x.BG.rings.get i3).x.closed))))) x.BG.now x.BG.reads x.BG.ended)))))))))))
 (.Ac S_f8_14 D_f8_14 (X_f8_14.mk x.Dj x.Dx x.BG)))
theorem sd_f8_8 (D_f8_8 : AV X_f8_8 R_f8) (x : X_f8_8) : (tt_f8_8 D_f8_8 x).AH :=
 (TT.sI (TT.sN (TT.sN (TT.sC fun _ => (TT.sN (TT.sN (TT.sN (TT.sI TT.sR (TT.sI TT.sR TT.sJ)))))))) TT.sJ)
def D_f8_8 : AV X_f8_8 R_f8 := AV.loop tt_f8_8
theorem ok_f8_8 : AZ J_f8 S_f8_8 D_f8_8 :=
 BF fun D_f8_8 h_8 => lk mxk (lbc h_8 rfl (lbc ok_f8_15 rfl (lbc ok_f8_14 rfl (lbc (ok_f8_13 D_f8_8 h_8) rfl lbn)))) (sd_f8_8 D_f8_8)
def tt_f8_6 (x : X_f8_6) : TT Tryz.prog R_f8 :=
 (.Ac S_f8_8 D_f8_8 (X_f8_8.mk x.Dj x.Dx x.Dx.AK ((x.Dx.AK.n : Nat) : Int) 0 (TFa.mk x.BG.p x.BG.threads x.BG.rings x.Dx.Mj x.Dx.Reads x.Dx.FE)))
theorem sd_f8_6 (x : X_f8_6) : (tt_f8_6 x).AH :=
 TT.sJ
def D_f8_6 : AV X_f8_6 R_f8 := .of tt_f8_6
theorem ok_f8_6 : AZ J_f8 S_f8_6 D_f8_6 :=
 lk mxk (lbc ok_f8_15 rfl (lbc ok_f8_14 rfl (lbc ok_f8_8 rfl lbn))) sd_f8_6
def tt_f8 (x : X_f8) : TT Tryz.prog R_f8 :=
 (.call con_f10 x.fst fun (y1 : R_f10) =>
 (.ite (!(Ad y1.snd 0))
 (.ret ((Bx.mk true (TFa.mk (TPg.mk (Sl.mk true 0 (fun _i2 => (TRg.mk 0 0 0))) (Sl.mk true 0 (fun _i2 => (Sl.mk true 0 (fun _i3 => (TIn.mk 0 0 0 0 0 0)))))) (Sl.mk true 0 (fun _i2 => (TTh.mk 0 0 0 0 0 (fun _i3 => (0 : Int)) (Sl.mk true 0 (fun _i3 => (0 : Int)))))) (Sl.mk true 0 (fun _i2 => (Bx.mk true (TRr.mk (TRc.mk 0 (Sl.mk true 0 (fun _i3 => (0 : Int)))) (Bx.mk true (TSs.mk (Sl.mk true 0 (fun _i3 => (TSo.mk 0 0 0))) 0)) 0 false)))) 0 0 false)), y1.snd))
 (.ite (!(Ad ((x.snd.AD.n : Nat) : Int) ((x.fst.AD.n : Nat) : Int)))
 (.ret ((Bx.mk true (TFa.mk (TPg.mk (Sl.mk true 0 (fun _i2 => (TRg.mk 0 0 0))) (Sl.mk true 0 (fun _i2 => (Sl.mk true 0 (fun _i3 => (TIn.mk 0 0 0 0 0 0)))))) (Sl.mk true 0 (fun _i2 => (TTh.mk 0 0 0 0 0 (fun _i3 => (0 : Int)) (Sl.mk true 0 (fun _i3 => (0 : Int)))))) (Sl.mk true 0 (fun _i2 => (Bx.mk true (TRr.mk (TRc.mk 0 (Sl.mk true 0 (fun _i3 => (0 : Int)))) (Bx.mk true (TSs.mk (Sl.mk true 0 (fun _i3 => (TSo.mk 0 0 0))) 0)) 0 false)))) 0 0 false)), 3))
 (.ite (!(Ad ((x.snd.AK.n : Nat) : Int) ((x.fst.AK.n : Nat) : Int)))
 (.ret ((Bx.mk true (TFa.mk (TPg.mk (Sl.mk true 0 (fun _i2 => (TRg.mk 0 0 0))) (Sl.mk true 0 (fun _i2 => (Sl.mk true 0 (fun _i3 => (TIn.mk 0 0 0 0 0 0)))))) (Sl.mk true 0 (fun _i2 => (TTh.mk 0 0 0 0 0 (fun _i3 => (0 : Int)) (Sl.mk true 0 (fun _i3 => (0 : Int)))))) (Sl.mk true 0 (fun _i2 => (Bx.mk true (TRr.mk (TRc.mk 0 (Sl.mk true 0 (fun _i3 => (0 : Int)))) (Bx.mk true (TSs.mk (Sl.mk true 0 (fun _i3 => (TSo.mk 0 0 0))) 0)) 0 false)))) 0 0 false)), 3))
 (.ite (Bh 9223372036854775808 x.snd.Mj)
 (.ret ((Bx.mk true (TFa.mk (TPg.mk (Sl.mk true 0 (fun _i2 => (TRg.mk 0 0 0))) (Sl.mk true 0 (fun _i2 => (Sl.mk true 0 (fun _i3 => (TIn.mk 0 0 0 0 0 0)))))) (Sl.mk true 0 (fun _i2 => (TTh.mk 0 0 0 0 0 (fun _i3 => (0 : Int)) (Sl.mk true 0 (fun _i3 => (0 : Int)))))) (Sl.mk true 0 (fun _i2 => (Bx.mk true (TRr.mk (TRc.mk 0 (Sl.mk true 0 (fun _i3 => (0 : Int)))) (Bx.mk true (TSs.mk (Sl.mk true 0 (fun _i3 => (TSo.mk 0 0 0))) 0)) 0 false)))) 0 0 false)), 3))
 (.need (!y1.fst.nil) <|
 (.Ac S_f8_6 D_f8_6 (X_f8_6.mk x.fst x.snd y1.fst.x))))))))
theorem sd_f8 (x : X_f8) : (tt_f8 x).AH :=
 (TT.sC fun _ => (TT.sI TT.sR (TT.sI TT.sR (TT.sI TT.sR (TT.sI TT.sR (TT.sN TT.sJ))))))
def D_f8 : AV X_f8 R_f8 := .of tt_f8
def con_f8 : BC Tryz.prog :=
 CH 15 J_f8 S_f8 D_f8 2 0 [sh_TPg, sh_TSt] (lk mxk (lbc ok_f8_15 rfl (lbc ok_f8_14 rfl (lbc ok_f8_8 rfl (lbc ok_f8_6 rfl lbn)))) sd_f8)
abbrev X_f20 : Type := TEv × TFa
abbrev R_f20 : Type := Int × TFa
def J_f20 : BH Tryz.prog :=
 BR Tryz.prog Tryz.f16 27 [(3, 3)] [] [] [] [.any] [sh_TFa] [con_fw, con_fd, con_fx, con_fs, con_f24] R_f20 [] fun y => [(V.int .i64) y.1, e_TFa y.2]
def S_f20 : AR :=
 Aj Tryz.f16 2 1 X_f20 (fun x => [(V.ptr (.par 0) []), e_TEv x.1, e_TFa x.2]) fun l => (d_TEv (at_ l 1), d_TFa (at_ l 2))
def tt_f20 (x : X_f20) : TT Tryz.prog R_f20 :=
 (.call con_fs (x.fst, x.snd) fun (y1 : R_fs) =>
 (.ite (!(Ad y1 0))
 (.ret (y1, x.snd))
 (.call con_f24 x.fst fun (y2 : R_f24) =>
 (.ite y2
 (.call con_fw (x.fst.Thread, x.snd) fun (y3 : R_fw) =>
 (.call con_fx (x.fst, (y3, x.snd)) fun (y4 : R_fx) =>
 (.ite (!y4)
 (.ret (8, x.snd))
 (.call con_fd (x.fst, x.snd) fun (y5 : R_fd) =>
 (.ret (0, y5))))))
 (.call con_fd (x.fst, x.snd) fun (y3 : R_fd) =>
 (.ret (0, y3)))))))
theorem sd_f20 (x : X_f20) : (tt_f20 x).AH :=
 (TT.sC fun _ => (TT.sI TT.sR (TT.sC fun _ => (TT.sI (TT.sC fun _ => (TT.sC fun _ => (TT.sI TT.sR (TT.sC fun _ => TT.sR)))) (TT.sC fun _ => TT.sR)))))
def D_f20 : AV X_f20 R_f20 := .of tt_f20
def con_f20 : BC Tryz.prog :=
 CH 16 J_f20 S_f20 D_f20 2 1 [.any, .any] (lk mxk lbn sd_f20)
abbrev X_f12 : Type := Int × TFa
abbrev R_f12 : Type := Bool
abbrev RR_f12 : Type := Bool × TFa
abbrev p_f12 (y : RR_f12) : TFa := y.2
abbrev w_f12 (x : X_f12) : TFa := x.2
def J_f12 : BH Tryz.prog :=
 BR Tryz.prog Tryz.f10 19 [] [] [] [.back (.loc 12 0)] [.any] [sh_TFa] [con_fv] RR_f12 [] fun y => [V.bool y.1, e_TFa y.2]
def S_f12 : AR :=
 Aj Tryz.f10 2 1 X_f12 (fun x => [(V.ptr (.par 0) []), (V.int .i64) x.1, e_TFa x.2]) fun l => (dI (at_ l 1), d_TFa (at_ l 2))
def tt_f12 (x : X_f12) : TT Tryz.prog RR_f12 :=
 (.call con_fv (x.fst, x.snd) fun (y1 : R_fv) =>
 (.ite y1
 (.need (BA x.fst x.snd.threads.n) <|
 (.need ((Nat.beq x.snd.threads.n x.snd.threads.n) && true) <|
 (.need ((true && true) && (Nat.beq x.snd.threads.n x.snd.threads.n)) <|
 (.ret ((Ad (x.snd.threads.get ((0 : Nat) + (Int.toNat x.fst))).Status 0), x.snd)))))
 (.ret (false, x.snd))))
theorem sd_f12 (x : X_f12) : (tt_f12 x).AH :=
 (TT.sC fun _ => (TT.sI (TT.sN (TT.sN (TT.sN TT.sR))) TT.sR))
theorem roT_f12 (x : X_f12) : TT.Ro p_f12 (w_f12 x) (tt_f12 x) :=
 (TT.rC fun _ => (TT.rI (TT.rN (TT.rN (TT.rN (TT.rR rfl)))) (TT.rR rfl)))
def D_f12 : AV X_f12 R_f12 := .ro (.of tt_f12) (fun y => (y.1)) (fun y x => (y, x.2)) fun x y h => congrArg (fun o => (y.1, o)) (roT_f12 x y h)
def con_f12 : BC Tryz.prog :=
 Cb 10 J_f12 S_f12 (.of tt_f12) D_f12 (fun y x => (y, x.2)) (fun y => V.bool y) 2 1 [.any, .any] (lk mxk lbn sd_f12) (fun x => ⟨(nu_e_TFa : ∀ y, (e_TFa y).CB) (x.2), trivial⟩)
abbrev X_f1y : Type := TTh
abbrev R_f1y : Type := Bool
def J_f1y : BH Tryz.prog :=
 BR Tryz.prog Tryz.f39 6 [(1, 3)] [] [] [] [.any] [] [] R_f1y [] fun y => [V.bool y]
def S_f1y : AR :=
 Aj Tryz.f39 1 0 X_f1y (fun x => [e_TTh x]) fun l => (d_TTh (at_ l 0))
def tt_f1y (x : X_f1y) : TT Tryz.prog R_f1y :=
 (.ret (Ad x.Status 0))
theorem sd_f1y (x : X_f1y) : (tt_f1y x).AH :=
 TT.sR
def D_f1y : AV X_f1y R_f1y := .of tt_f1y
def con_f1y : BC Tryz.prog :=
 CH 39 J_f1y S_f1y D_f1y 1 0 [sh_TTh] (lk mxk lbn sd_f1y)
abbrev X_f0 : Type := (Ar TTh)
abbrev R_f0 : Type := Int
abbrev RR_f0 : Type := Int × (Ar TTh)
abbrev p_f0 (y : RR_f0) : (Ar TTh) := y.2
abbrev w_f0 (x : X_f0) : (Ar TTh) := x
def J_f0 : BH Tryz.prog :=
 BR Tryz.prog Tryz.f64 19 [] [] [] [] [.any] [.any] [con_f1y] RR_f0 [] fun y => [(V.int .i64) y.1, (Hm 14 e_TTh) y.2]
def S_f0 : AR :=
 Aj Tryz.f64 2 1 X_f0 (fun x => [(V.own (.par 0) [] 14 x.n 0 x.n), (V.fn 39 V.unit), (Hm 14 e_TTh) x]) fun l => ((Mq d_TTh) (at_ l 2))
structure X_f0_2 where
 SJ : Int
 Oa : Int
 Ae : (Ar TTh)
def S_f0_2 : AR :=
 Ak Tryz.f64 2 (an [0, 1, 7, 8]) [.any] [] X_f0_2 (fun x => [(V.own (.par 0) [] 14 x.Ae.n 0 x.Ae.n), (V.fn 39 V.unit), (V.int .i64) x.SJ, (V.int .i64) x.Oa, (Hm 14 e_TTh) x.Ae]) fun l => ⟨dI (at_ l 2), dI (at_ l 3), (Mq d_TTh) (at_ l 4)⟩
abbrev w_f0_2 (x : X_f0_2) : (Ar TTh) := (x.Ae)
def tt_f0_2 (D_f0_2 : AV X_f0_2 RR_f0) (x : X_f0_2) : TT Tryz.prog RR_f0 :=
 (.ite (Bu x.Oa x.SJ)
 (.need (BA x.Oa x.Ae.n) <|
 (.need ((Nat.beq x.Ae.n x.Ae.n) && true) <|
 (.call con_f1y (x.Ae.get ((0 : Nat) + (Int.toNat x.Oa))) fun (y2 : R_f1y) =>
 (.ite y2
 (.ret (x.Oa, x.Ae))
 (.Ac S_f0_2 D_f0_2 (X_f0_2.mk x.SJ (IntKind.i64.wrap (x.Oa + 1)) x.Ae))))))
 (.ret ((-(1 : Int)), x.Ae)))
theorem sd_f0_2 (D_f0_2 : AV X_f0_2 RR_f0) (x : X_f0_2) : (tt_f0_2 D_f0_2 x).AH :=
 (TT.sI (TT.sN (TT.sN (TT.sC fun _ => (TT.sI TT.sR TT.sJ)))) TT.sR)
theorem roT_f0_2 (D_f0_2 : AV X_f0_2 RR_f0) (r2 : ∀ x y, D_f0_2.rel x y → p_f0 y = w_f0_2 x) (x : X_f0_2) : TT.Ro p_f0 (w_f0_2 x) (tt_f0_2 D_f0_2 x) :=
 (TT.rI (TT.rN (TT.rN (TT.rC fun _ => (TT.rI (TT.rR rfl) (TT.rJ (r2 _)))))) (TT.rR rfl))
def D_f0_2 : AV X_f0_2 RR_f0 := AV.loop tt_f0_2
theorem ok_f0_2 : AZ J_f0 S_f0_2 D_f0_2 :=
 BF fun D_f0_2 h_2 => lk mxk (lbc h_2 rfl lbn) (sd_f0_2 D_f0_2)
theorem ro_f0_2 : ∀ x y, D_f0_2.rel x y → p_f0 y = w_f0_2 x :=
 G1 fun D_f0_2 r2 => roT_f0_2 D_f0_2 r2
def tt_f0 (x : X_f0) : TT Tryz.prog RR_f0 :=
 (.Ac S_f0_2 D_f0_2 (X_f0_2.mk ((x.n : Nat) : Int) 0 x))
theorem sd_f0 (x : X_f0) : (tt_f0 x).AH :=
 TT.sJ
theorem roT_f0 (x : X_f0) : TT.Ro p_f0 (w_f0 x) (tt_f0 x) :=
 (TT.rJ (ro_f0_2 _))
def D_f0 : AV X_f0 R_f0 := .ro (.of tt_f0) (fun y => (y.1)) (fun y x => (y, x)) fun x y h => congrArg (fun o => (y.1, o)) (roT_f0 x y h)
def con_f0 : BC Tryz.prog :=
 Cb 64 J_f0 S_f0 (.of tt_f0) D_f0 (fun y x => (y, x)) (fun y => (V.int .i64) y) 2 1 [.any, .any] (lk mxk (lbc ok_f0_2 rfl lbn) sd_f0) (fun x => ⟨(fun _ _ => (nu_e_TTh) _ : ∀ y, ((Hm 14 e_TTh) y).CB) (x), trivial⟩)
abbrev X_f9 : Type := (Ar TTh)
abbrev R_f9 : Type := Bool
abbrev RR_f9 : Type := Bool × (Ar TTh)
abbrev p_f9 (y : RR_f9) : (Ar TTh) := y.2
abbrev w_f9 (x : X_f9) : (Ar TTh) := x
def J_f9 : BH Tryz.prog :=
 BR Tryz.prog Tryz.f38 9 [(5, 1)] [] [] [] [.any] [.any] [con_f0] RR_f9 [] fun y => [V.bool y.1, (Hm 14 e_TTh) y.2]
def S_f9 : AR :=
 Aj Tryz.f38 2 1 X_f9 (fun x => [(V.own (.par 0) [] 14 x.n 0 x.n), (V.fn 39 V.unit), (Hm 14 e_TTh) x]) fun l => ((Mq d_TTh) (at_ l 2))
def tt_f9 (x : X_f9) : TT Tryz.prog RR_f9 :=
 (.call con_f0 x fun (y1 : R_f0) =>
 (.ret ((Bh 0 y1), x)))
theorem sd_f9 (x : X_f9) : (tt_f9 x).AH :=
 (TT.sC fun _ => TT.sR)
theorem roT_f9 (x : X_f9) : TT.Ro p_f9 (w_f9 x) (tt_f9 x) :=
 (TT.rC fun _ => (TT.rR rfl))
def D_f9 : AV X_f9 R_f9 := .ro (.of tt_f9) (fun y => (y.1)) (fun y x => (y, x)) fun x y h => congrArg (fun o => (y.1, o)) (roT_f9 x y h)
def con_f9 : BC Tryz.prog :=
 Cb 38 J_f9 S_f9 (.of tt_f9) D_f9 (fun y x => (y, x)) (fun y => V.bool y) 2 1 [.any, .any] (lk mxk lbn sd_f9) (fun x => ⟨(fun _ _ => (nu_e_TTh) _ : ∀ y, ((Hm 14 e_TTh) y).CB) (x), trivial⟩)
abbrev X_f18 : Type := TFa
abbrev R_f18 : Type := Bool
abbrev RR_f18 : Type := Bool × TFa
abbrev p_f18 (y : RR_f18) : TFa := y.2
abbrev w_f18 (x : X_f18) : TFa := x
def J_f18 : BH Tryz.prog :=
 BR Tryz.prog Tryz.f17 13 [] [] [] [.back (.loc 9 0)] [.any] [sh_TFa] [con_f9] RR_f18 [] fun y => [V.bool y.1, e_TFa y.2]
def S_f18 : AR :=
 Aj Tryz.f17 1 1 X_f18 (fun x => [(V.ptr (.par 0) []), e_TFa x]) fun l => (d_TFa (at_ l 1))
def tt_f18 (x : X_f18) : TT Tryz.prog RR_f18 :=
 (.call con_f9 (Ar.mk x.threads.n x.threads.get) fun (y1 : R_f9) =>
 (.need ((true && true) && (Nat.beq x.threads.n x.threads.n)) <|
 (.ret ((!y1), x))))
theorem sd_f18 (x : X_f18) : (tt_f18 x).AH :=
 (TT.sC fun _ => (TT.sN TT.sR))
theorem roT_f18 (x : X_f18) : TT.Ro p_f18 (w_f18 x) (tt_f18 x) :=
 (TT.rC fun _ => (TT.rN (TT.rR rfl)))
def D_f18 : AV X_f18 R_f18 := .ro (.of tt_f18) (fun y => (y.1)) (fun y x => (y, x)) fun x y h => congrArg (fun o => (y.1, o)) (roT_f18 x y h)
def con_f18 : BC Tryz.prog :=
 Cb 17 J_f18 S_f18 (.of tt_f18) D_f18 (fun y x => (y, x)) (fun y => V.bool y) 1 1 [.any] (lk mxk lbn sd_f18) (fun x => ⟨(nu_e_TFa : ∀ y, (e_TFa y).CB) (x), trivial⟩)
abbrev X_f1e : Type := TFa
abbrev R_f1e : Type := Int
abbrev RR_f1e : Type := Int × TFa
abbrev p_f1e (y : RR_f1e) : TFa := y.2
abbrev w_f1e (x : X_f1e) : TFa := x
def J_f1e : BH Tryz.prog :=
 BR Tryz.prog Tryz.f18 9 [] [] [] [] [.any] [sh_TFa] [] RR_f1e [] fun y => [(V.int .u64) y.1, e_TFa y.2]
def S_f1e : AR :=
 Aj Tryz.f18 1 1 X_f1e (fun x => [(V.ptr (.par 0) []), e_TFa x]) fun l => (d_TFa (at_ l 1))
def tt_f1e (x : X_f1e) : TT Tryz.prog RR_f1e :=
 (.ret (x.now, x))
theorem sd_f1e (x : X_f1e) : (tt_f1e x).AH :=
 TT.sR
theorem roT_f1e (x : X_f1e) : TT.Ro p_f1e (w_f1e x) (tt_f1e x) :=
 (TT.rR rfl)
def D_f1e : AV X_f1e R_f1e := .ro (.of tt_f1e) (fun y => (y.1)) (fun y x => (y, x)) fun x y h => congrArg (fun o => (y.1, o)) (roT_f1e x y h)
def con_f1e : BC Tryz.prog :=
 Cb 18 J_f1e S_f1e (.of tt_f1e) D_f1e (fun y x => (y, x)) (fun y => (V.int .u64) y) 1 1 [.any] (lk mxk lbn sd_f1e) (fun x => ⟨(nu_e_TFa : ∀ y, (e_TFa y).CB) (x), trivial⟩)
abbrev X_f13 : Type := Int × TFa
abbrev R_f13 : Type := (Sl Int)
abbrev RR_f13 : Type := (Sl Int) × TFa
abbrev p_f13 (y : RR_f13) : TFa := y.2
abbrev w_f13 (x : X_f13) : TFa := x.2
def J_f13 : BH Tryz.prog :=
 BR Tryz.prog Tryz.f9 18 [] [] [] [.back (.loc 12 0), .D8 4] [C5] [sh_TFa] [con_fv, con_f1a] RR_f13 [] fun y => [CW y.1, e_TFa y.2]
def S_f13 : AR :=
 Aj Tryz.f9 2 1 X_f13 (fun x => [(V.ptr (.par 0) []), (V.int .i64) x.1, e_TFa x.2]) fun l => (dI (at_ l 1), d_TFa (at_ l 2))
def tt_f13 (x : X_f13) : TT Tryz.prog RR_f13 :=
 (.call con_fv (x.fst, x.snd) fun (y1 : R_fv) =>
 (.ite (!y1)
 (.ret ((Sl.mk true 0 (fun _i2 => (0 : Int))), x.snd))
 (.need (BA x.fst x.snd.threads.n) <|
 (.need ((Nat.beq x.snd.threads.n x.snd.threads.n) && true) <|
 (.call con_f1a (x.snd.threads.get ((0 : Nat) + (Int.toNat x.fst))).Seen fun (y2 : R_f1a) =>
 (.need ((true && true) && (Nat.beq x.snd.threads.n x.snd.threads.n)) <|
 (.ret (y2, x.snd))))))))
theorem sd_f13 (x : X_f13) : (tt_f13 x).AH :=
 (TT.sC fun _ => (TT.sI TT.sR (TT.sN (TT.sN (TT.sC fun _ => (TT.sN TT.sR))))))
theorem roT_f13 (x : X_f13) : TT.Ro p_f13 (w_f13 x) (tt_f13 x) :=
 (TT.rC fun _ => (TT.rI (TT.rR rfl) (TT.rN (TT.rN (TT.rC fun _ => (TT.rN (TT.rR rfl)))))))
def D_f13 : AV X_f13 R_f13 := .ro (.of tt_f13) (fun y => (y.1)) (fun y x => (y, x.2)) fun x y h => congrArg (fun o => (y.1, o)) (roT_f13 x y h)
def con_f13 : BC Tryz.prog :=
 Cb 9 J_f13 S_f13 (.of tt_f13) D_f13 (fun y x => (y, x.2)) (fun y => CW y) 2 1 [.any, .any] (lk mxk lbn sd_f13) (fun x => ⟨(nu_e_TFa : ∀ y, (e_TFa y).CB) (x.2), trivial⟩)
abbrev X_f2s : Type := Unit
abbrev R_f2s : Type := Bool
def J_f2s : BH Tryz.prog :=
 BR Tryz.prog Tryz.f4 190 [(22, 1), (27, 1), (36, 1), (41, 1), (66, 1), (155, 1), (185, 1)] [(3, [.open_ 1])] [] [] [.any] [] [con_fc, con_f19, con_f1l, con_f20, con_f1e, con_f18, con_f12, con_f13, con_f4, con_f8, con_f10, con_f2v] R_f2s [] fun y => [V.bool y]
def S_f2s : AR :=
 Aj Tryz.f4 0 0 X_f2s (fun _x => []) fun _l => ()
def tt_f2s (_x : X_f2s) : TT Tryz.prog R_f2s :=
 (.call con_f2v PUnit.unit fun (y1 : R_f2v) =>
 (.call con_f10 y1 fun (y2 : R_f10) =>
 (.call con_f10 (TPg.mk (Sl.mk true 0 (fun _i3 => (TRg.mk 0 0 0))) (Sl.mk true 0 (fun _i3 => (Sl.mk true 0 (fun _i4 => (TIn.mk 0 0 0 0 0 0)))))) fun (y3 : R_f10) =>
 (.need (!y2.fst.nil) <|
 (.call con_f19 (0, y2.fst.x) fun (y4 : R_f19) =>
 (.call con_f19 (1, y2.fst.x) fun (y5 : R_f19) =>
 (.call con_fc ((TEv.mk 0 1 0 0 0), y2.fst.x) fun (y6 : R_fc) =>
 (.call con_fc ((TEv.mk 0 5 0 0 0), y2.fst.x) fun (y7 : R_fc) =>
 (.call con_f1l ((TEv.mk 0 1 0 0 0), y2.fst.x) fun (y8 : R_f1l) =>
 (.call con_f1l ((TEv.mk 0 1 0 0 0), y8.snd) fun (y9 : R_f1l) =>
 (.call con_f1l ((TEv.mk 0 2 0 0 0), y9.snd) fun (y10 : R_f1l) =>
 (.call con_f1l ((TEv.mk 0 5 0 0 0), y10.snd) fun (y11 : R_f1l) =>
 (.call con_f4 y11.snd fun (y12 : R_f4) =>
 (.call con_f2v PUnit.unit fun (y13 : R_f2v) =>
 (.call con_f8 (y13, y12) fun (y14 : R_f8) =>
 (.call con_f20 ((TEv.mk 0 1 0 1 0), y11.snd) fun (y15 : R_f20) =>
 (.call con_f20 ((TEv.mk 0 12 0 0 0), y15.snd) fun (y16 : R_f20) =>
 (.ite (Ad y2.snd 0)
 (.ite (Ad y3.snd 1)
 (.ite (Ad y4.fst.Kind 1)
 (.ite (Ad y4.fst.Value 5)
 (.ite (Ad y4.snd 0)
 (.ite (Ad y5.snd 5)
 (.ite y6
 (.ite (!y7)
 (.ite (Ad y8.fst 0)
 (.ite (Ad y9.fst 11)
 (.ite (Ad y10.fst 0)
 (.ite (Ad y11.fst 0)
 (.ite (Ad ((y12.AD.n : Nat) : Int) 1)
 (.need (BA 0 y12.AD.n) <|
 (.ite (Ad ((y12.AD.get (Int.toNat 0)).Ao (Int.toNat 2)) 1)
 (.ite (Ad ((y12.AK.n : Nat) : Int) 1)
 (.need (BA 0 y12.AK.n) <|
 (.ite (Ad (y12.AK.get (Int.toNat 0)).A4 1)
 (.ite (!y14.fst.nil)
 (.ite (Ad y14.snd 0)
 (.ite (Ad y15.fst 8)
 (.ite (Ad y16.fst 11)
 (.call con_f12 (0, y16.snd) fun (y17 : R_f12) =>
 (.ite y17
 (.call con_f18 y16.snd fun (y18 : R_f18) =>
 (.ite (!y18)
 (.call con_f1e y16.snd fun (y19 : R_f1e) =>
 (.ite (Ad y19 0)
 (.call con_f13 (0, y16.snd) fun (y20 : R_f13) =>
 (.ret (Ad ((y20.n : Nat) : Int) 0)))
 (.ret false)))
 (.ret false)))
 (.ret false)))
 (.ret false))
 (.ret false))
 (.ret false))
 (.ret false))
 (.ret false)))
 (.ret false))
 (.ret false)))
 (.ret false))
 (.ret false))
 (.ret false))
 (.ret false))
 (.ret false))
 (.ret false))
 (.ret false))
 (.ret false))
 (.ret false))
 (.ret false))
 (.ret false))
 (.ret false))
 (.ret false)))))))))))))))))))
theorem sd_f2s (x : X_f2s) : (tt_f2s x).AH :=
 (TT.sC fun _ => (TT.sC fun _ => (TT.sC fun _ => (TT.sN (TT.sC fun _ => (TT.sC fun _ => (TT.sC fun _ => (TT.sC fun _ => (TT.sC fun _ => (TT.sC fun _ => (TT.sC fun _ => (TT.sC fun _ => (TT.sC fun _ => (TT.sC fun _ => (TT.sC fun _ => (TT.sC fun _ => (TT.sC fun _ => (TT.sI (TT.sI (TT.sI (TT.sI (TT.sI (TT.sI (TT.sI (TT.sI (TT.sI (TT.sI (TT.sI (TT.sI (TT.sI (TT.sN (TT.sI (TT.sI (TT.sN (TT.sI (TT.sI (TT.sI (TT.sI (TT.sI (TT.sC fun _ => (TT.sI (TT.sC fun _ => (TT.sI (TT.sC fun _ => (TT.sI (TT.sC fun _ => TT.sR) TT.sR)) TT.sR)) TT.sR)) TT.sR) TT.sR) TT.sR) TT.sR) TT.sR)) TT.sR) TT.sR)) TT.sR) TT.sR) TT.sR) TT.sR) TT.sR) TT.sR) TT.sR) TT.sR) TT.sR) TT.sR) TT.sR) TT.sR) TT.sR))))))))))))))))))
def D_f2s : AV X_f2s R_f2s := .of tt_f2s
def con_f2s : BC Tryz.prog :=
 CH 4 J_f2s S_f2s D_f2s 0 0 [] (lk mxk lbn sd_f2s)
abbrev X_f1c : Type := TPg × Int
abbrev R_f1c : Type := Bool
def J_f1c : BH Tryz.prog :=
 BR Tryz.prog Tryz.f19 43 [(2, 3)] [] [] [] [.any] [] [] R_f1c [] fun y => [V.bool y]
def S_f1c : AR :=
 Aj Tryz.f19 2 0 X_f1c (fun x => [e_TPg x.1, (V.int .i64) x.2]) fun l => (d_TPg (at_ l 0), dI (at_ l 1))
structure X_f1c_3 where
 Fq : Int
 Dj : TPg
def S_f1c_3 : AR :=
 Ak Tryz.f19 3 (an [1, 2]) [] [] X_f1c_3 (fun x => [(V.int .i64) x.Fq, (DQ e_TPg) x.Dj]) fun l => ⟨dI (at_ l 0), (DR d_TPg) (at_ l 1)⟩
structure X_f1c_5 where
 Fq : Int
 Dj : TPg
 Ic : Int
 Ri : Int
def S_f1c_5 : AR :=
 Ak Tryz.f19 5 (an [1, 2, 5, 6]) [] [] X_f1c_5 (fun x => [(V.int .i64) x.Fq, (DQ e_TPg) x.Dj, (V.int .i64) x.Ic, (V.int .i64) x.Ri]) fun l => ⟨dI (at_ l 0), (DR d_TPg) (at_ l 1), dI (at_ l 2), dI (at_ l 3)⟩
def tt_f1c_5 (D_f1c_5 : AV X_f1c_5 R_f1c) (x : X_f1c_5) : TT Tryz.prog R_f1c :=
 (.ite (Bu x.Ri ((x.Dj.AD.n : Nat) : Int))
 (.need (BA x.Ri x.Dj.AD.n) <|
 (.ite (Bu x.Fq (((x.Dj.AD.get (Int.toNat x.Ri)).n : Nat) : Int))
 (.ret false)
 (.need (BA x.Ri x.Dj.AD.n) <|
 (.Ac S_f1c_5 D_f1c_5 (X_f1c_5.mk x.Fq x.Dj (IntKind.i64.wrap (x.Ic + (((x.Dj.AD.get (Int.toNat x.Ri)).n : Nat) : Int))) (IntKind.i64.wrap (x.Ri + 1)))))))
 (.ret (Bh x.Ic x.Fq)))
theorem sd_f1c_5 (D_f1c_5 : AV X_f1c_5 R_f1c) (x : X_f1c_5) : (tt_f1c_5 D_f1c_5 x).AH :=
 (TT.sI (TT.sN (TT.sI TT.sR (TT.sN TT.sJ))) TT.sR)
def D_f1c_5 : AV X_f1c_5 R_f1c := AV.loop tt_f1c_5
theorem ok_f1c_5 : AZ J_f1c S_f1c_5 D_f1c_5 :=
 BF fun D_f1c_5 h_5 => lk mxk (lbc h_5 rfl lbn) (sd_f1c_5 D_f1c_5)
def tt_f1c_3 (x : X_f1c_3) : TT Tryz.prog R_f1c :=
 (.Ac S_f1c_5 D_f1c_5 (X_f1c_5.mk x.Fq x.Dj 0 0))
theorem sd_f1c_3 (x : X_f1c_3) : (tt_f1c_3 x).AH :=
 TT.sJ
def D_f1c_3 : AV X_f1c_3 R_f1c := .of tt_f1c_3
theorem ok_f1c_3 : AZ J_f1c S_f1c_3 D_f1c_3 :=
 lk mxk (lbc ok_f1c_5 rfl lbn) sd_f1c_3
def tt_f1c (x : X_f1c) : TT Tryz.prog R_f1c :=
 (.ite (Bu 10 ((x.fst.AK.n : Nat) : Int))
 (.ret false)
 (.ite (Bu 10 ((x.fst.AD.n : Nat) : Int))
 (.ret false)
 (.Ac S_f1c_3 D_f1c_3 (X_f1c_3.mk x.snd x.fst))))
theorem sd_f1c (x : X_f1c) : (tt_f1c x).AH :=
 (TT.sI TT.sR (TT.sI TT.sR TT.sJ))
def D_f1c : AV X_f1c R_f1c := .of tt_f1c
def con_f1c : BC Tryz.prog :=
 CH 19 J_f1c S_f1c D_f1c 2 0 [sh_TPg, .any] (lk mxk (lbc ok_f1c_5 rfl (lbc ok_f1c_3 rfl lbn)) sd_f1c)
abbrev X_f32 : Type := TRg
abbrev R_f32 : Type := Bool
def J_f32 : BH Tryz.prog :=
 BR Tryz.prog Tryz.f88 36 [(1, 3)] [] [] [] [.any] [] [] R_f32 [] fun y => [V.bool y]
def S_f32 : AR :=
 Aj Tryz.f88 1 0 X_f32 (fun x => [e_TRg x]) fun l => (d_TRg (at_ l 0))
def tt_f32 (x : X_f32) : TT Tryz.prog R_f32 :=
 (.ite (Bh 1 x.Dn)
 (.ite (Bh x.Dn 64)
 (.ite (Ad x.Kind 1)
 (.ite (Ad x.AX 1)
 (.ret true)
 (.ite (Ad x.Kind 2)
 (.ite (Bh 1 x.AX)
 (.ret (Bh x.AX 8))
 (.ret false))
 (.ret false)))
 (.ite (Ad x.Kind 2)
 (.ite (Bh 1 x.AX)
 (.ret (Bh x.AX 8))
 (.ret false))
 (.ret false)))
 (.ret false))
 (.ret false))
theorem sd_f32 (x : X_f32) : (tt_f32 x).AH :=
 (TT.sI (TT.sI (TT.sI (TT.sI TT.sR (TT.sI (TT.sI TT.sR TT.sR) TT.sR)) (TT.sI (TT.sI TT.sR TT.sR) TT.sR)) TT.sR) TT.sR)
def D_f32 : AV X_f32 R_f32 := .of tt_f32
def con_f32 : BC Tryz.prog :=
 CH 88 J_f32 S_f32 D_f32 1 0 [.any] (lk mxk lbn sd_f32)
abbrev X_f33 : Type := Int
abbrev R_f33 : Type := ByteArray
def J_f33 : BH Tryz.prog :=
 BR Tryz.prog Tryz.f107 53 [] [] [] [] [.any] [] [] R_f33 [] fun y => [V.str y]
def S_f33 : AR :=
 Aj Tryz.f107 1 0 X_f33 (fun x => [(V.int .i64) x]) fun l => (dI (at_ l 0))
def tt_f33 (x : X_f33) : TT Tryz.prog R_f33 :=
 (.ite (Ad x 1)
 (.ret (ByteArray.mk #[114, 48, 48, 48, 110]))
 (.ite (Ad x 2)
 (.ret (ByteArray.mk #[114, 114, 48, 48, 48]))
 (.ite (Ad x 23)
 (.ret (ByteArray.mk #[114, 114, 48, 48, 48]))
 (.ite (Bh 3 x)
 (.ite (Bh x 14)
 (.ret (ByteArray.mk #[114, 114, 114, 48, 48]))
 (.ite (Ad x 15)
 (.ret (ByteArray.mk #[48, 48, 48, 48, 112]))
 (.ite (Ad x 16)
 (.ret (ByteArray.mk #[114, 48, 48, 48, 112]))
 (.ite (Ad x 17)
 (.ret (ByteArray.mk #[114, 48, 48, 48, 112]))
 (.ite (Ad x 18)
 (.ret (ByteArray.mk #[114, 114, 103, 109, 48]))
 (.ite (Ad x 19)
 (.ret (ByteArray.mk #[114, 114, 103, 109, 100]))
 (.ite (Ad x 20)
 (.ret (ByteArray.mk #[48, 48, 103, 48, 48]))
 (.ite (Ad x 21)
 (.ret (ByteArray.mk #[114, 48, 48, 48, 48]))
 (.ite (Ad x 22)
 (.ret (ByteArray.mk #[114, 48, 48, 48, 48]))
 (.ite (Ad x 24)
 (.ret (ByteArray.mk #[114, 48, 48, 48, 48]))
 (.ite (Ad x 25)
 (.ret (ByteArray.mk #[48, 48, 48, 48, 48]))
 (.ret (ByteArray.mk #[])))))))))))))
 (.ite (Ad x 15)
 (.ret (ByteArray.mk #[48, 48, 48, 48, 112]))
 (.ite (Ad x 16)
 (.ret (ByteArray.mk #[114, 48, 48, 48, 112]))
 (.ite (Ad x 17)
 (.ret (ByteArray.mk #[114, 48, 48, 48, 112]))
 (.ite (Ad x 18)
 (.ret (ByteArray.mk #[114, 114, 103, 109, 48]))
 (.ite (Ad x 19)
 (.ret (ByteArray.mk #[114, 114, 103, 109, 100]))
 (.ite (Ad x 20)
 (.ret (ByteArray.mk #[48, 48, 103, 48, 48]))
 (.ite (Ad x 21)
 (.ret (ByteArray.mk #[114, 48, 48, 48, 48]))
 (.ite (Ad x 22)
 (.ret (ByteArray.mk #[114, 48, 48, 48, 48]))
 (.ite (Ad x 24)
 (.ret (ByteArray.mk #[114, 48, 48, 48, 48]))
 (.ite (Ad x 25)
 (.ret (ByteArray.mk #[48, 48, 48, 48, 48]))
 (.ret (ByteArray.mk #[]))))))))))))))))
theorem sd_f33 (x : X_f33) : (tt_f33 x).AH :=
 (TT.sI TT.sR (TT.sI TT.sR (TT.sI TT.sR (TT.sI (TT.sI TT.sR (TT.sI TT.sR (TT.sI TT.sR (TT.sI TT.sR (TT.sI TT.sR (TT.sI TT.sR (TT.sI TT.sR (TT.sI TT.sR (TT.sI TT.sR (TT.sI TT.sR (TT.sI TT.sR TT.sR))))))))))) (TT.sI TT.sR (TT.sI TT.sR (TT.sI TT.sR (TT.sI TT.sR (TT.sI TT.sR (TT.sI TT.sR (TT.sI TT.sR (TT.sI TT.sR (TT.sI TT.sR (TT.sI TT.sR TT.sR))))))))))))))
def D_f33 : AV X_f33 R_f33 := .of tt_f33
def con_f33 : BC Tryz.prog :=
 CH 107 J_f33 S_f33 D_f33 1 0 [.any] (lk mxk lbn sd_f33)
end Go.Proofs.YtlhifcnjnmeknaaGreat
end
