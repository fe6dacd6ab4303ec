/- What functions of the program come to, part D: no statement is proved here. -/
import Derived.Test.YtlhifcnjnmeknaaGreatGC
noncomputable section
namespace Go.Proofs.YtlhifcnjnmeknaaGreat
open Go Go.Vm Go.Proofs
set_option maxRecDepth 100000
abbrev X_f1 : Type := TSo × TRr
abbrev R_f1 : Type := Bool
abbrev RR_f1 : Type := Bool × TRr
abbrev p_f1 (y : RR_f1) : TRr := y.2
abbrev w_f1 (x : X_f1) : TRr := x.2
def J_f1 : BH Tryz.prog :=
 BR Tryz.prog Tryz.f62 74 [(3, 3)] [(9, [.back (.loc 30 0)]), (11, [.back (.loc 30 0)]), (13, [.back (.loc 30 0)])] [] [.back (.loc 30 0)] [.any] [sh_TRr] [] RR_f1 [(6, [⟨.loc 30 0, .par 0, [.BN 0 0, .BN 1 1], none, none⟩]), (12, [⟨.loc 30 0, .par 0, [.BN 0 0, .BN 1 1], none, none⟩])] fun y => [V.bool y.1, e_TRr y.2]
def S_f1 : AR :=
 Aj Tryz.f62 2 1 X_f1 (fun x => [(V.ptr (.par 0) []), e_TSo x.1, e_TRr x.2]) fun l => (d_TSo (at_ l 1), d_TRr (at_ l 2))
structure X_f1_5 where
 LZ : TSo
 It : Int
 CA : Bool
 Ae : TRr
def S_f1_5 : AR :=
 Ak Tryz.f62 5 (an [0, 3, 5, 6]) [sh_TRr] [] X_f1_5 (fun x => [(V.ptr (.par 0) []), (DQ e_TSo) x.LZ, (V.int .u64) x.It, V.bool x.CA, e_TRr x.Ae]) fun l => ⟨(DR d_TSo) (at_ l 1), dI (at_ l 2), dB (at_ l 3), d_TRr (at_ l 4)⟩
structure X_f1_6 where
 LZ : TSo
 It : Int
 CA : Bool
 El : Int
 Ek : Int
 Ae : TRr
def S_f1_6 : AR :=
 Ak Tryz.f62 6 (an [0, 3, 5, 6, 30, 31, 32]) [sh_TRr] [(.loc 30 0, .any)] X_f1_6 (fun x => [(V.ptr (.par 0) []), (DQ e_TSo) x.LZ, (V.int .u64) x.It, V.bool x.CA, (V.own (.loc 30 0) [] 1 x.Ae.AA.AB.n 0 x.Ae.AA.AB.n), (V.int .i64) x.El, (V.int .i64) x.Ek, V.cons (V.cons ((V.int .u64) x.Ae.AA.tail) (V.cons (V.BQ (.loc 30 0) 36 1 x.Ae.AA.AB.nil x.Ae.AA.AB.n) (V.unit))) (V.cons (ebox_TSs x.Ae.s) (V.cons ((V.int .u64) x.Ae.most) (V.cons (V.bool x.Ae.closed) (V.unit)))), (V.arr 1 x.Ae.AA.AB.n fun i => (V.int .u64) (x.Ae.AA.AB.get i))]) fun l => ⟨(DR d_TSo) (at_ l 1), dI (at_ l 2), dB (at_ l 3), dI (at_ l 5), dI (at_ l 6), { d_TRr (at_ l 7) with AA.AB := ⟨(Pa (fd (fd (at_ l 7) 0) 1)).nil, (Pa (fd (fd (at_ l 7) 0) 1)).n, (Mq dI (at_ l 8)).get⟩ }⟩
structure X_f1_12 where
 LZ : TSo
 It : Int
 CA : Bool
 El : Int
 Ek : Int
 Ae : TRr
def S_f1_12 : AR :=
 Ak Tryz.f62 12 (an [0, 3, 5, 6, 30, 31, 32]) [sh_TRr] [(.loc 30 0, .any)] X_f1_12 (fun x => [(V.ptr (.par 0) []), (DQ e_TSo) x.LZ, (V.int .u64) x.It, V.bool x.CA, (V.own (.loc 30 0) [] 1 x.Ae.AA.AB.n 0 x.Ae.AA.AB.n), (V.int .i64) x.El, (V.int .i64) x.Ek, V.cons (V.cons ((V.int .u64) x.Ae.AA.tail) (V.cons (V.BQ (.loc 30 0) 36 1 x.Ae.AA.AB.nil x.Ae.AA.AB.n) (V.unit))) (V.cons (ebox_TSs x.Ae.s) (V.cons ((V.int .u64) x.Ae.most) (V.cons (V.bool x.Ae.closed) (V.unit)))), (V.arr 1 x.Ae.AA.AB.n fun i => (V.int .u64) (x.Ae.AA.AB.get i))]) fun l => ⟨(DR d_TSo) (at_ l 1), dI (at_ l 2), dB (at_ l 3), dI (at_ l 5), dI (at_ l 6), { d_TRr (at_ l 7) with AA.AB := ⟨(Pa (fd (fd (at_ l 7) 0) 1)).nil, (Pa (fd (fd (at_ l 7) 0) 1)).n, (Mq dI (at_ l 8)).get⟩ }⟩
abbrev w_f1_5 (x : X_f1_5) : TRr := (x.Ae)
abbrev w_f1_6 (x : X_f1_6) : TRr := (x.Ae)
abbrev w_f1_12 (x : X_f1_12) : TRr := (x.Ae)
def tt_f1_12 (D_f1_6 : AV X_f1_6 RR_f1) (x : X_f1_12) : TT Tryz.prog RR_f1 :=
 (.Ac S_f1_6 D_f1_6 (X_f1_6.mk x.LZ x.It x.CA x.El (IntKind.i64.wrap (x.Ek + 1)) x.Ae))
theorem sd_f1_12 (D_f1_6 : AV X_f1_6 RR_f1) (x : X_f1_12) : (tt_f1_12 D_f1_6 x).AH :=
 TT.sJ
theorem roT_f1_12 (D_f1_6 : AV X_f1_6 RR_f1) (r6 : ∀ x y, D_f1_6.rel x y → p_f1 y = w_f1_6 x) (x : X_f1_12) : TT.Ro p_f1 (w_f1_12 x) (tt_f1_12 D_f1_6 x) :=
 (TT.rJ (r6 _))
def D_f1_12 (D_f1_6 : AV X_f1_6 RR_f1) : AV X_f1_12 RR_f1 := .of (tt_f1_12 D_f1_6)
theorem ok_f1_12 (D_f1_6 : AV X_f1_6 RR_f1) (h_6 : AZ J_f1 S_f1_6 D_f1_6) : AZ J_f1 S_f1_12 (D_f1_12 D_f1_6) :=
 lk mxk (lbc h_6 rfl lbn) (sd_f1_12 D_f1_6)
theorem ro_f1_12 (D_f1_6 : AV X_f1_6 RR_f1) (r6 : ∀ x y, D_f1_6.rel x y → p_f1 y = w_f1_6 x) : ∀ x y, (D_f1_12 D_f1_6).rel x y → p_f1 y = w_f1_12 x :=
 roT_f1_12 D_f1_6 r6
def tt_f1_6 (D_f1_6 : AV X_f1_6 RR_f1) (x : X_f1_6) : TT Tryz.prog RR_f1 :=
 (.ite (Bu x.Ek x.El)
 (.need (BA x.Ek x.Ae.AA.AB.n) <|
 (.need ((Nat.beq x.Ae.AA.AB.n x.Ae.AA.AB.n) && true) <|
 (.ite x.CA
 (.need (Bh 0 x.Ek) <|
 (.ite (Ad (Vm.bits .and IntKind.i64 (shr IntKind.i64 x.LZ.Left x.Ek) 1) 0)
 (.ite (Bh (x.Ae.AA.AB.get ((0 : Nat) + (Int.toNat x.Ek))) x.It)
 (.need ((true && true) && (Nat.beq x.Ae.AA.AB.n x.Ae.AA.AB.n)) <|
 (.ret (false, x.Ae)))
 (.ite (!x.CA)
 (.ite (Bh x.Ae.most x.It)
 (.ite (Bh (x.Ae.AA.AB.get ((0 : Nat) + (Int.toNat x.Ek))) (IntKind.u64.wrap (x.It - x.Ae.most)))
 (.need ((true && true) && (Nat.beq x.Ae.AA.AB.n x.Ae.AA.AB.n)) <|
 (.ret (false, x.Ae)))
 (.Ac S_f1_12 (D_f1_12 D_f1_6) (X_f1_12.mk x.LZ x.It x.CA x.El x.Ek x.Ae)))
 (.Ac S_f1_12 (D_f1_12 D_f1_6) (X_f1_12.mk x.LZ x.It x.CA x.El x.Ek x.Ae)))
 (.Ac S_f1_12 (D_f1_12 D_f1_6) (X_f1_12.mk x.LZ x.It x.CA x.El x.Ek x.Ae))))
 (.ite (!x.CA)
 (.ite (Bh x.Ae.most x.It)
 (.ite (Bh (x.Ae.AA.AB.get ((0 : Nat) + (Int.toNat x.Ek))) (IntKind.u64.wrap (x.It - x.Ae.most)))
 (.need ((true && true) && (Nat.beq x.Ae.AA.AB.n x.Ae.AA.AB.n)) <|
 (.ret (false, x.Ae)))
 (.Ac S_f1_12 (D_f1_12 D_f1_6) (X_f1_12.mk x.LZ x.It x.CA x.El x.Ek x.Ae)))
 (.Ac S_f1_12 (D_f1_12 D_f1_6) (X_f1_12.mk x.LZ x.It x.CA x.El x.Ek x.Ae)))
 (.Ac S_f1_12 (D_f1_12 D_f1_6) (X_f1_12.mk x.LZ x.It x.CA x.El x.Ek x.Ae)))))
 (.ite (!x.CA)
 (.ite (Bh x.Ae.most x.It)
 (.ite (Bh (x.Ae.AA.AB.get ((0 : Nat) + (Int.toNat x.Ek))) (IntKind.u64.wrap (x.It - x.Ae.most)))
 (.need ((true && true) && (Nat.beq x.Ae.AA.AB.n x.Ae.AA.AB.n)) <|
 (.ret (false, x.Ae)))
 (.Ac S_f1_12 (D_f1_12 D_f1_6) (X_f1_12.mk x.LZ x.It x.CA x.El x.Ek x.Ae)))
 (.Ac S_f1_12 (D_f1_12 D_f1_6) (X_f1_12.mk x.LZ x.It x.CA x.El x.Ek x.Ae)))
 (.Ac S_f1_12 (D_f1_12 D_f1_6) (X_f1_12.mk x.LZ x.It x.CA x.El x.Ek x.Ae))))))
 (.need ((true && true) && (Nat.beq x.Ae.AA.AB.n x.Ae.AA.AB.n)) <|
 (.ret (true, x.Ae))))
theorem sd_f1_6 (D_f1_6 : AV X_f1_6 RR_f1) (x : X_f1_6) : (tt_f1_6 D_f1_6 x).AH :=
 (TT.sI (TT.sN (TT.sN (TT.sI (TT.sN (TT.sI (TT.sI (TT.sN TT.sR) (TT.sI (TT.sI (TT.sI (TT.sN TT.sR) TT.sJ) TT.sJ) TT.sJ)) (TT.sI (TT.sI (TT.sI (TT.sN TT.sR) TT.sJ) TT.sJ) TT.sJ))) (TT.sI (TT.sI (TT.sI (TT.sN TT.sR) TT.sJ) TT.sJ) TT.sJ)))) (TT.sN TT.sR))
theorem roT_f1_6 (D_f1_6 : AV X_f1_6 RR_f1) (r6 : ∀ x y, D_f1_6.rel x y → p_f1 y = w_f1_6 x) (x : X_f1_6) : TT.Ro p_f1 (w_f1_6 x) (tt_f1_6 D_f1_6 x) :=
 (TT.rI (TT.rN (TT.rN (TT.rI (TT.rN (TT.rI (TT.rI (TT.rN (TT.rR rfl)) (TT.rI (TT.rI (TT.rI (TT.rN (TT.rR rfl)) (TT.rJ (ro_f1_12 D_f1_6 r6 _))) (TT.rJ (ro_f1_12 D_f1_6 r6 _))) (TT.rJ (ro_f1_12 D_f1_6 r6 _)))) (TT.rI (TT.rI (TT.rI (TT.rN (TT.rR rfl)) (TT.rJ (ro_f1_12 D_f1_6 r6 _))) (TT.rJ (ro_f1_12 D_f1_6 r6 _))) (TT.rJ (ro_f1_12 D_f1_6 r6 _))))) (TT.rI (TT.rI (TT.rI (TT.rN (TT.rR rfl)) (TT.rJ (ro_f1_12 D_f1_6 r6 _))) (TT.rJ (ro_f1_12 D_f1_6 r6 _))) (TT.rJ (ro_f1_12 D_f1_6 r6 _)))))) (TT.rN (TT.rR rfl)))
def D_f1_6 : AV X_f1_6 RR_f1 := AV.loop tt_f1_6
theorem ok_f1_6 : AZ J_f1 S_f1_6 D_f1_6 :=
 BF fun D_f1_6 h_6 => lk mxk (lbc h_6 rfl (lbc (ok_f1_12 D_f1_6 h_6) rfl lbn)) (sd_f1_6 D_f1_6)
theorem ro_f1_6 : ∀ x y, D_f1_6.rel x y → p_f1 y = w_f1_6 x :=
 G1 fun D_f1_6 r6 => roT_f1_6 D_f1_6 r6
def tt_f1_5 (x : X_f1_5) : TT Tryz.prog RR_f1 :=
 (.Ac S_f1_6 D_f1_6 (X_f1_6.mk x.LZ x.It x.CA ((x.Ae.AA.AB.n : Nat) : Int) 0 x.Ae))
theorem sd_f1_5 (x : X_f1_5) : (tt_f1_5 x).AH :=
 TT.sJ
theorem roT_f1_5 (x : X_f1_5) : TT.Ro p_f1 (w_f1_5 x) (tt_f1_5 x) :=
 (TT.rJ (ro_f1_6 _))
def D_f1_5 : AV X_f1_5 RR_f1 := .of tt_f1_5
theorem ok_f1_5 : AZ J_f1 S_f1_5 D_f1_5 :=
 lk mxk (lbc ok_f1_6 rfl lbn) sd_f1_5
theorem ro_f1_5 : ∀ x y, D_f1_5.rel x y → p_f1 y = w_f1_5 x :=
 roT_f1_5 
def tt_f1 (x : X_f1) : TT Tryz.prog RR_f1 :=
 (.ite (Ad (Int.tmod x.fst.AQ 2) 1)
 (.ite (Bh x.snd.AA.tail (IntKind.u64.wrap (Int.tdiv x.fst.AQ 2)))
 (.ret (false, x.snd))
 (.Ac S_f1_5 D_f1_5 (X_f1_5.mk x.fst (IntKind.u64.wrap (Int.tdiv x.fst.AQ 2)) (Ad (Int.tmod x.fst.AQ 2) 1) x.snd)))
 (.Ac S_f1_5 D_f1_5 (X_f1_5.mk x.fst (IntKind.u64.wrap (Int.tdiv x.fst.AQ 2)) (Ad (Int.tmod x.fst.AQ 2) 1) x.snd)))
theorem sd_f1 (x : X_f1) : (tt_f1 x).AH :=
 (TT.sI (TT.sI TT.sR TT.sJ) TT.sJ)
theorem roT_f1 (x : X_f1) : TT.Ro p_f1 (w_f1 x) (tt_f1 x) :=
 (TT.rI (TT.rI (TT.rR rfl) (TT.rJ (ro_f1_5 _))) (TT.rJ (ro_f1_5 _)))
def D_f1 : AV X_f1 R_f1 := .ro (.of tt_f1) (fun y => (y.1)) (fun y x => (y, x.2)) fun x y h => congrArg (fun o => (y.1, o)) (roT_f1 x y h)
def con_f1 : BC Tryz.prog :=
 Cb 62 J_f1 S_f1 (.of tt_f1) D_f1 (fun y x => (y, x.2)) (fun y => V.bool y) 2 1 [.any, .any] (lk mxk (lbc ok_f1_6 rfl (lbc ok_f1_5 rfl lbn)) sd_f1) (fun x => ⟨(nu_e_TRr : ∀ y, (e_TRr y).CB) (x.2), trivial⟩)
abbrev X_f1j : Type := (Sl Int)
abbrev R_f1j : Type := (Sl Int)
def J_f1j : BH Tryz.prog :=
 BR Tryz.prog Tryz.f27 8 [(5, 1), (6, 1)] [] [] [.D8 2] [MJ] [] [] R_f1j [] fun y => [JX y]
def S_f1j : AR :=
 Aj Tryz.f27 1 0 X_f1j (fun x => [CW x]) fun l => (ED (at_ l 0))
def tt_f1j (x : X_f1j) : TT Tryz.prog R_f1j :=
 (.ite x.nil
 (.ret (Sl.mk true 0 (fun _i1 => (0 : Int))))
 (.need (true && (room ((0 : Nat) + x.n) 8)) <|
 (.ret (Sl.mk (cond (Nat.beq x.n 0) false false) ((0 : Nat) + x.n) (fun i1 => (cond (Nat.blt i1 0) (0 : Int) (x.get (i1 - 0))))))))
theorem sd_f1j (x : X_f1j) : (tt_f1j x).AH :=
 (TT.sI TT.sR (TT.sN TT.sR))
def D_f1j : AV X_f1j R_f1j := .of tt_f1j
def con_f1j : BC Tryz.prog :=
 CH 27 J_f1j S_f1j D_f1j 1 0 [C5] (lk mxk lbn sd_f1j)
abbrev X_fb : Type := TRg × TRs
abbrev R_fb : Type := (Bx TRr) × Int
def J_fb : BH Tryz.prog :=
 BR Tryz.prog Tryz.f35 113 [(2, 3), (3, 3), (13, 1), (21, 1), (57, 1), (112, 1)] [(7, [.open_ 6]), (12, [.close (.loc 72 0)]), (14, [.close (.loc 72 0)]), (15, [.close (.loc 72 0)]), (16, [.close (.loc 72 0)]), (17, [.close (.loc 72 0)]), (18, [.close (.loc 72 0)]), (19, [.close (.loc 72 0)]), (20, [.close (.loc 72 0)])] [] [.close (.loc 72 0), .D8 4] [hbox_TRr, .any] [] [con_f23, con_f1, con_f1j, con_fo] R_fb [(9, [⟨.loc 72 0, .loc 6 1, [.BN 0 0, .BN 1 1], none, none⟩]), (13, [⟨.loc 72 0, .loc 6 1, [.BN 0 0, .BN 1 1], none, none⟩])] fun y => [V.CG (V.cons (ebox_TRr y.1) (V.cons ((V.int .i64) y.2) (V.unit)))]
def S_fb : AR :=
 Aj Tryz.f35 2 0 X_fb (fun x => [e_TRg x.1, e_TRs x.2]) fun l => (d_TRg (at_ l 0), d_TRs (at_ l 1))
structure X_fb_7 where
 Dx : TRs
 l_8 : (Bx TSs)
 BG : TRr
def S_fb_7 : AR :=
 Ak Tryz.f35 7 [(3, .any), (6, .any), (8, hbox_TSs)] [] [(.loc 6 1, sh_TRr)] X_fb_7 (fun x => [(DQ e_TRs) x.Dx, (V.ptr (.loc 6 1) []), ebox_TSs x.l_8, e_TRr x.BG]) fun l => ⟨(DR d_TRs) (at_ l 0), dbox_TSs (at_ l 2), d_TRr (at_ l 3)⟩
structure X_fb_9 where
 Dx : TRs
 Ob : Int
 Ks : Int
 BG : TRr
def S_fb_9 : AR :=
 Ak Tryz.f35 9 (an [3, 6, 72, 73, 74]) [] [(.loc 6 1, sh_TRr), (.loc 72 0, .any)] X_fb_9 (fun x => [(DQ e_TRs) x.Dx, (V.ptr (.loc 6 1) []), (V.own (.loc 72 0) [] 1 x.BG.AA.AB.n 0 x.BG.AA.AB.n), (V.int .i64) x.Ob, (V.int .i64) x.Ks, V.cons (V.cons ((V.int .u64) x.BG.AA.tail) (V.cons (V.BQ (.loc 72 0) 36 1 x.BG.AA.AB.nil x.BG.AA.AB.n) (V.unit))) (V.cons (ebox_TSs x.BG.s) (V.cons ((V.int .u64) x.BG.most) (V.cons (V.bool x.BG.closed) (V.unit)))), (V.arr 1 x.BG.AA.AB.n fun i => (V.int .u64) (x.BG.AA.AB.get i))]) fun l => ⟨(DR d_TRs) (at_ l 0), dI (at_ l 3), dI (at_ l 4), { d_TRr (at_ l 5) with AA.AB := ⟨(Pa (fd (fd (at_ l 5) 0) 1)).nil, (Pa (fd (fd (at_ l 5) 0) 1)).n, (Mq dI (at_ l 6)).get⟩ }⟩
structure X_fb_13 where
 Dx : TRs
 Ob : Int
 Ks : Int
 BG : TRr
def S_fb_13 : AR :=
 Ak Tryz.f35 13 (an [3, 6, 72, 73, 74]) [] [(.loc 6 1, sh_TRr), (.loc 72 0, .any)] X_fb_13 (fun x => [(DQ e_TRs) x.Dx, (V.ptr (.loc 6 1) []), (V.own (.loc 72 0) [] 1 x.BG.AA.AB.n 0 x.BG.AA.AB.n), (V.int .i64) x.Ob, (V.int .i64) x.Ks, V.cons (V.cons ((V.int .u64) x.BG.AA.tail) (V.cons (V.BQ (.loc 72 0) 36 1 x.BG.AA.AB.nil x.BG.AA.AB.n) (V.unit))) (V.cons (ebox_TSs x.BG.s) (V.cons ((V.int .u64) x.BG.most) (V.cons (V.bool x.BG.closed) (V.unit)))), (V.arr 1 x.BG.AA.AB.n fun i => (V.int .u64) (x.BG.AA.AB.get i))]) fun l => ⟨(DR d_TRs) (at_ l 0), dI (at_ l 3), dI (at_ l 4), { d_TRr (at_ l 5) with AA.AB := ⟨(Pa (fd (fd (at_ l 5) 0) 1)).nil, (Pa (fd (fd (at_ l 5) 0) 1)).n, (Mq dI (at_ l 6)).get⟩ }⟩
structure X_fb_14 where
 Dx : TRs
 BG : TRr
def S_fb_14 : AR :=
 Ak Tryz.f35 14 (an [3, 6]) [] [(.loc 6 1, sh_TRr)] X_fb_14 (fun x => [(DQ e_TRs) x.Dx, (V.ptr (.loc 6 1) []), e_TRr x.BG]) fun l => ⟨(DR d_TRs) (at_ l 0), d_TRr (at_ l 2)⟩
structure X_fb_15 where
 Nq : (Sl TSo)
 P7 : Int
 L1 : Int
 BG : TRr
def S_fb_15 : AR :=
 Ak Tryz.f35 15 [(6, .any), (101, hsl_TSo), (102, .any), (103, .any)] [] [(.loc 6 1, sh_TRr)] X_fb_15 (fun x => [(V.ptr (.loc 6 1) []), esl_TSo x.Nq, (V.int .i64) x.P7, (V.int .i64) x.L1, e_TRr x.BG]) fun l => ⟨dsl_TSo (at_ l 1), dI (at_ l 2), dI (at_ l 3), d_TRr (at_ l 4)⟩
def tt_fb_15 (D_fb_15 : AV X_fb_15 R_fb) (x : X_fb_15) : TT Tryz.prog R_fb :=
 (.ite (Bu x.L1 x.P7)
 (.need (BA x.L1 x.Nq.n) <|
 (.call con_f1 ((x.Nq.get (Int.toNat x.L1)), x.BG) fun (y2 : R_f1) =>
 (.ite (!y2)
 (.ret ((Bx.mk true (TRr.mk (TRc.mk 0 (Sl.mk true 0 (fun _i3 => (0 : Int)))) (Bx.mk true (TSs.mk (Sl.mk true 0 (fun _i3 => (TSo.mk 0 0 0))) 0)) 0 false)), 3))
 (.Ac S_fb_15 D_fb_15 (X_fb_15.mk x.Nq x.P7 (IntKind.i64.wrap (x.L1 + 1)) x.BG)))))
 (.ret ((Bx.mk false x.BG), 0)))
theorem sd_fb_15 (D_fb_15 : AV X_fb_15 R_fb) (x : X_fb_15) : (tt_fb_15 D_fb_15 x).AH :=
 (TT.sI (TT.sN (TT.sC fun _ => (TT.sI TT.sR TT.sJ))) TT.sR)
def D_fb_15 : AV X_fb_15 R_fb := AV.loop tt_fb_15
theorem ok_fb_15 : AZ J_fb S_fb_15 D_fb_15 :=
 BF fun D_fb_15 h_15 => lk mxk (lbc h_15 rfl lbn) (sd_fb_15 D_fb_15)
def tt_fb_14 (x : X_fb_14) : TT Tryz.prog R_fb :=
 (.Ac S_fb_15 D_fb_15 (X_fb_15.mk x.Dx.Aw ((x.Dx.Aw.n : Nat) : Int) 0 x.BG))
theorem sd_fb_14 (x : X_fb_14) : (tt_fb_14 x).AH :=
 TT.sJ
def D_fb_14 : AV X_fb_14 R_fb := .of tt_fb_14
theorem ok_fb_14 : AZ J_fb S_fb_14 D_fb_14 :=
 lk mxk (lbc ok_fb_15 rfl lbn) sd_fb_14
def tt_fb_13 (D_fb_9 : AV X_fb_9 R_fb) (x : X_fb_13) : TT Tryz.prog R_fb :=
 (.Ac S_fb_9 D_fb_9 (X_fb_9.mk x.Dx x.Ob (IntKind.i64.wrap (x.Ks + 1)) x.BG))
theorem sd_fb_13 (D_fb_9 : AV X_fb_9 R_fb) (x : X_fb_13) : (tt_fb_13 D_fb_9 x).AH :=
 TT.sJ
def D_fb_13 (D_fb_9 : AV X_fb_9 R_fb) : AV X_fb_13 R_fb := .of (tt_fb_13 D_fb_9)
theorem ok_fb_13 (D_fb_9 : AV X_fb_9 R_fb) (h_9 : AZ J_fb S_fb_9 D_fb_9) : AZ J_fb S_fb_13 (D_fb_13 D_fb_9) :=
 lk mxk (lbc h_9 rfl (lbc ok_fb_15 rfl (lbc ok_fb_14 rfl lbn))) (sd_fb_13 D_fb_9)
def tt_fb_9 (D_fb_9 : AV X_fb_9 R_fb) (x : X_fb_9) : TT Tryz.prog R_fb :=
 (.ite (Bu x.Ks x.Ob)
 (.need (BA x.Ks x.BG.AA.AB.n) <|
 (.need ((Nat.beq x.BG.AA.AB.n x.BG.AA.AB.n) && true) <|
 (.ite (Bu x.BG.AA.tail (x.BG.AA.AB.get ((0 : Nat) + (Int.toNat x.Ks))))
 (.need ((true && true) && (Nat.beq x.BG.AA.AB.n x.BG.AA.AB.n)) <|
 (.ret ((Bx.mk true (TRr.mk (TRc.mk 0 (Sl.mk true 0 (fun _i2 => (0 : Int)))) (Bx.mk true (TSs.mk (Sl.mk true 0 (fun _i2 => (TSo.mk 0 0 0))) 0)) 0 false)), 3)))
 (.ite (Bu x.BG.most (IntKind.u64.wrap (x.BG.AA.tail - (x.BG.AA.AB.get ((0 : Nat) + (Int.toNat x.Ks))))))
 (.need ((true && true) && (Nat.beq x.BG.AA.AB.n x.BG.AA.AB.n)) <|
 (.ret ((Bx.mk true (TRr.mk (TRc.mk 0 (Sl.mk true 0 (fun _i2 => (0 : Int)))) (Bx.mk true (TSs.mk (Sl.mk true 0 (fun _i2 => (TSo.mk 0 0 0))) 0)) 0 false)), 3)))
 (.Ac S_fb_13 (D_fb_13 D_fb_9) (X_fb_13.mk x.Dx x.Ob x.Ks x.BG))))))
 (.need ((true && true) && (Nat.beq x.BG.AA.AB.n x.BG.AA.AB.n)) <|
 (.Ac S_fb_14 D_fb_14 (X_fb_14.mk x.Dx x.BG))))
theorem sd_fb_9 (D_fb_9 : AV X_fb_9 R_fb) (x : X_fb_9) : (tt_fb_9 D_fb_9 x).AH :=
 (TT.sI (TT.sN (TT.sN (TT.sI (TT.sN TT.sR) (TT.sI (TT.sN TT.sR) TT.sJ)))) (TT.sN TT.sJ))
def D_fb_9 : AV X_fb_9 R_fb := AV.loop tt_fb_9
theorem ok_fb_9 : AZ J_fb S_fb_9 D_fb_9 :=
 BF fun D_fb_9 h_9 => lk mxk (lbc h_9 rfl (lbc ok_fb_15 rfl (lbc ok_fb_14 rfl (lbc (ok_fb_13 D_fb_9 h_9) rfl lbn)))) (sd_fb_9 D_fb_9)
def tt_fb_7 (x : X_fb_7) : TT Tryz.prog R_fb :=
 (.call con_f1j x.Dx.An fun (y1 : R_f1j) =>
 (.Ac S_fb_9 D_fb_9 (X_fb_9.mk x.Dx ((y1.n : Nat) : Int) 0 (TRr.mk (TRc.mk x.Dx.A4 y1) x.l_8 x.BG.most x.Dx.B4))))
theorem sd_fb_7 (x : X_fb_7) : (tt_fb_7 x).AH :=
 (TT.sC fun _ => TT.sJ)
def D_fb_7 : AV X_fb_7 R_fb := .of tt_fb_7
theorem ok_fb_7 : AZ J_fb S_fb_7 D_fb_7 :=
 lk mxk (lbc ok_fb_15 rfl (lbc ok_fb_14 rfl (lbc ok_fb_9 rfl lbn))) sd_fb_7
def tt_fb (x : X_fb) : TT Tryz.prog R_fb :=
 (.call con_f23 x.fst fun (y1 : R_f23) =>
 (.ite (!(Ad y1.snd 0))
 (.ret ((Bx.mk true (TRr.mk (TRc.mk 0 (Sl.mk true 0 (fun _i2 => (0 : Int)))) (Bx.mk true (TSs.mk (Sl.mk true 0 (fun _i2 => (TSo.mk 0 0 0))) 0)) 0 false)), y1.snd))
 (.call con_fo (x.fst.Dn, (x.fst.AX, x.snd.Aw)) fun (y2 : R_fo) =>
 (.ite (!(Ad y2.snd 0))
 (.ret ((Bx.mk true (TRr.mk (TRc.mk 0 (Sl.mk true 0 (fun _i3 => (0 : Int)))) (Bx.mk true (TSs.mk (Sl.mk true 0 (fun _i3 => (TSo.mk 0 0 0))) 0)) 0 false)), 3))
 (.ite (!(Ad ((x.snd.An.n : Nat) : Int) x.fst.AX))
 (.ret ((Bx.mk true (TRr.mk (TRc.mk 0 (Sl.mk true 0 (fun _i3 => (0 : Int)))) (Bx.mk true (TSs.mk (Sl.mk true 0 (fun _i3 => (TSo.mk 0 0 0))) 0)) 0 false)), 3))
 (.ite (Bh 4611686018427387904 x.snd.A4)
 (.ret ((Bx.mk true (TRr.mk (TRc.mk 0 (Sl.mk true 0 (fun _i3 => (0 : Int)))) (Bx.mk true (TSs.mk (Sl.mk true 0 (fun _i3 => (TSo.mk 0 0 0))) 0)) 0 false)), 3))
 (.need (!y1.fst.nil) <|
 (.Ac S_fb_7 D_fb_7 (X_fb_7.mk x.snd y2.fst y1.fst.x)))))))))
theorem sd_fb (x : X_fb) : (tt_fb x).AH :=
 (TT.sC fun _ => (TT.sI TT.sR (TT.sC fun _ => (TT.sI TT.sR (TT.sI TT.sR (TT.sI TT.sR (TT.sN TT.sJ)))))))
def D_fb : AV X_fb R_fb := .of tt_fb
def con_fb : BC Tryz.prog :=
 CH 35 J_fb S_fb D_fb 2 0 [.any, sh_TRs] (lk mxk (lbc ok_fb_15 rfl (lbc ok_fb_14 rfl (lbc ok_fb_9 rfl (lbc ok_fb_7 rfl lbn)))) sd_fb)
abbrev X_f1x : Type := Int × TFa
abbrev R_f1x : Type := TFa
def J_f1x : BH Tryz.prog :=
 BR Tryz.prog Tryz.f48 56 [(9, 1), (34, 1), (54, 1)] [(1, [.close (.loc 16 0), .close (.loc 13 0)]), (2, [.close (.loc 16 0), .close (.loc 13 0)]), (3, [.close (.loc 28 0), .close (.loc 25 0), .close (.loc 16 0), .close (.loc 13 0)]), (4, [.close (.loc 28 0), .close (.loc 25 0), .close (.loc 16 0), .close (.loc 13 0)]), (5, [.close (.loc 28 0), .close (.loc 25 0), .close (.loc 16 0), .close (.loc 13 0)]), (6, [.close (.loc 28 0), .close (.loc 25 0), .close (.loc 16 0), .close (.loc 13 0)])] [] [.close (.loc 52 0), .close (.loc 28 0), .close (.loc 25 0), .close (.loc 16 0), .close (.loc 13 0)] [] [sh_TFa] [con_fb, con_f28, con_f1d] R_f1x [] fun y => [V.CG (V.unit), e_TFa y]
def S_f1x : AR :=
 Aj Tryz.f48 2 1 X_f1x (fun x => [(V.ptr (.par 0) []), (V.int .i64) x.1, e_TFa x.2]) fun l => (dI (at_ l 1), d_TFa (at_ l 2))
def tt_f1x (x : X_f1x) : TT Tryz.prog R_f1x :=
 (.need (BA x.fst x.snd.rings.n) <|
 (.need (((Nat.beq x.snd.rings.n x.snd.rings.n) && true) && (!(x.snd.rings.get ((0 : Nat) + (Int.toNat x.fst))).nil)) <|
 (.call con_f28 (x.snd.rings.get ((0 : Nat) + (Int.toNat x.fst))).x fun (y1 : R_f28) =>
 (.need ((true && true) && ((Nat.beq x.snd.rings.n x.snd.rings.n) && (Nat.blt ((0 : Nat) + (Int.toNat x.fst)) x.snd.rings.n))) <|
 (.side ((fun v : Nat → V => v = v) (fun i2 => (cond (Nat.beq i2 ((0 : Nat) + (Int.toNat x.fst))) (V.ptr (Id.loc 16 0) List.nil) (V.Aa (x.snd.rings.get i2).nil (V.cons (V.cons (V.int IntKind.u64 (x.snd.rings.get i2).x.AA.tail) (V.cons (V.Aq 36 1 (x.snd.rings.get i2).x.AA.AB.nil (x.snd.rings.get i2).x.AA.AB.n (fun i3 => (V.int IntKind.u64 ((x.snd.rings.get i2).x.AA.AB.get i3)))) V.unit)) (V.cons (V.Aa (x.snd.rings.get i2).x.s.nil (V.cons (V.Aq 115 3 (x.snd.rings.get i2).x.s.x.l.nil (x.snd.rings.get i2).x.s.x.l.n (fun i3 => (V.cons (V.int IntKind.u64 ((x.snd.rings.get i2).x.s.x.l.get i3).AQ) (V.cons (V.int IntKind.u64 ((x.snd.rings.get i2).x.s.x.l.get i3).Value) (V.cons (V.int IntKind.i64 ((x.snd.rings.get i2).x.s.x.l.get i3).Left) V.unit))))) (V.cons (V.int IntKind.i64 (x.snd.rings.get i2).x.s.x.AP) V.unit))) (V.cons (V.int IntKind.u64 (x.snd.rings.get i2).x.most) (V.cons (V.bool (x.snd.rings.get i2).x.closed) V.unit)))))))) <|
 (.need ((true && true) && (Nat.beq x.snd.rings.n x.snd.rings.n)) <|
 (.ite (!(Ad y1.snd.fst 10))
 (.ret (TFa.mk x.snd.p x.snd.threads (Sl.mk x.snd.rings.nil x.snd.rings.n (fun i2 => (Bx.mk (cond (Nat.beq i2 ((0 : Nat) + (Int.toNat x.fst))) false (x.snd.rings.get i2).nil) (TRr.mk (TRc.mk (cond (Nat.beq i2 ((0 : Nat) + (Int.toNat x.fst))) y1.snd.snd.AA.tail (x.snd.rings.get i2).x.AA.tail) (Sl.mk (cond (Nat.beq i2 ((0 : Nat) + (Int.toNat x.fst))) y1.snd.snd.AA.AB.nil (x.snd.rings.get i2).x.AA.AB.nil) (cond (Nat.beq i2 ((0 : Nat) + (Int.toNat x.fst))) y1.snd.snd.AA.AB.n (x.snd.rings.get i2).x.AA.AB.n) (fun i3 => (cond (Nat.beq i2 ((0 : Nat) + (Int.toNat x.fst))) (y1.snd.snd.AA.AB.get i3) ((x.snd.rings.get i2).x.AA.AB.get i3))))) (Bx.mk (cond (Nat.beq i2 ((0 : Nat) + (Int.toNat x.fst))) y1.snd.snd.s.nil (x.snd.rings.get i2).x.s.nil) (TSs.mk (Sl.mk (cond (Nat.beq i2 ((0 : Nat) + (Int.toNat x.fst))) y1.snd.snd.s.x.l.nil (x.snd.rings.get i2).x.s.x.l.nil) (cond (Nat.beq i2 ((0 : Nat) + (Int.toNat x.fst))) y1.snd.snd.s.x.l.n (x.snd.rings.get i2).x.s.x.l.n) (fun i3 => (TSo.mk (cond (Nat.beq i2 ((0 : Nat) + (Int.toNat x.fst))) (y1.snd.snd.s.x.l.get i3).AQ ((x.snd.rings.get i2).x.s.x.l.get i3).AQ) (cond (Nat.beq i2 ((0 : Nat) + (Int.toNat x.fst))) (y1.snd.snd.s.x.l.get i3).Value ((x.snd.rings.get i2).x.s.x.l.get i3).Value) (cond (Nat.beq i2 ((0 : Nat) + (Int.toNat x.fst))) (y1.snd.snd.s.x.l.get i3).Left ((x.snd.rings.get i2).x.s.x.l.get i3).Left)))) (cond (Nat.beq i2 ((0 : Nat) + (Int.toNat x.fst))) y1.snd.snd.s.x.AP (x.snd.rings.get i2).x.s.x.AP))) (cond (Nat.beq i2 ((0 : Nat) + (Int.toNat x.fst))) y1.snd.snd.most (x.snd.rings.get i2).x.most) (cond (Nat.beq i2 ((0 : Nat) + (Int.toNat x.fst))) y1.snd.snd.closed (x.snd.rings.get i2).x.closed))))) x.snd.now x.snd.reads x.snd.ended))
 (.need (BA x.fst x.snd.rings.n) <|
 (.need (((Nat.beq x.snd.rings.n x.snd.rings.n) && true) && (!(cond (Nat.beq ((0 : Nat) + (Int.toNat x.fst)) ((0 : Nat) + (Int.toNat x.fst))) false (x.snd.rings.get ((0 : Nat) + (Int.toNat x.fst))).nil))) <|
 (.call con_f1d (TRr.mk (TRc.mk (cond (Nat.beq ((0 : Nat) + (Int.toNat x.fst)) ((0 : Nat) + (Int.toNat x.fst))) y1.snd.snd.AA.tail (x.snd.rings.get ((0 : Nat) + (Int.toNat x.fst))).x.AA.tail) (Sl.mk (cond (Nat.beq ((0 : Nat) + (Int.toNat x.fst)) ((0 : Nat) + (Int.toNat x.fst))) y1.snd.snd.AA.AB.nil (x.snd.rings.get ((0 : Nat) + (Int.toNat x.fst))).x.AA.AB.nil) (cond (Nat.beq ((0 : Nat) + (Int.toNat x.fst)) ((0 : Nat) + (Int.toNat x.fst))) y1.snd.snd.AA.AB.n (x.snd.rings.get ((0 : Nat) + (Int.toNat x.fst))).x.AA.AB.n) (fun i2 => (cond (Nat.beq ((0 : Nat) + (Int.toNat x.fst)) ((0 : Nat) + (Int.toNat x.fst))) (y1.snd.snd.AA.AB.get i2) ((x.snd.rings.get ((0 : Nat) + (Int.toNat x.fst))).x.AA.AB.get i2))))) (Bx.mk (cond (Nat.beq ((0 : Nat) + (Int.toNat x.fst)) ((0 : Nat) + (Int.toNat x.fst))) y1.snd.snd.s.nil (x.snd.rings.get ((0 : Nat) + (Int.toNat x.fst))).x.s.nil) (TSs.mk (Sl.mk (cond (Nat.beq ((0 : Nat) + (Int.toNat x.fst)) ((0 : Nat) + (Int.toNat x.fst))) y1.snd.snd.s.x.l.nil (x.snd.rings.get ((0 : Nat) + (Int.toNat x.fst))).x.s.x.l.nil) (cond (Nat.beq ((0 : Nat) + (Int.toNat x.fst)) ((0 : Nat) + (Int.toNat x.fst))) y1.snd.snd.s.x.l.n (x.snd.rings.get ((0 : Nat) + (Int.toNat x.fst))).x.s.x.l.n) (fun i2 => (TSo.mk (cond (Nat.beq ((0 : Nat) + (Int.toNat x.fst)) ((0 : Nat) + (Int.toNat x.fst))) (y1.snd.snd.s.x.l.get i2).AQ ((x.snd.rings.get ((0 : Nat) + (Int.toNat x.fst))).x.s.x.l.get i2).AQ) (cond (Nat.beq ((0 : Nat) + (Int.toNat x.fst)) ((0 : Nat) + (Int.toNat x.fst))) (y1.snd.snd.s.x.l.get i2).Value ((x.snd.rings.get ((0 : Nat) + (Int.toNat x.fst))).x.s.x.l.get i2).Value) (cond (Nat.beq ((0 : Nat) + (Int.toNat x.fst)) ((0 : Nat) + (Int.toNat x.fst))) (y1.snd.snd.s.x.l.get i2).Left ((x.snd.rings.get ((0 : Nat) + (Int.toNat x.fst))).x.s.x.l.get i2).Left)))) (cond (Nat.beq ((0 : Nat) + (Int.toNat x.fst)) ((0 : Nat) + (Int.toNat x.fst))) y1.snd.snd.s.x.AP (x.snd.rings.get ((0 : Nat) + (Int.toNat x.fst))).x.s.x.AP))) (cond (Nat.beq ((0 : Nat) + (Int.toNat x.fst)) ((0 : Nat) + (Int.toNat x.fst))) y1.snd.snd.most (x.snd.rings.get ((0 : Nat) + (Int.toNat x.fst))).x.most) (cond (Nat.beq ((0 : Nat) + (Int.toNat x.fst)) ((0 : Nat) + (Int.toNat x.fst))) y1.snd.snd.closed (x.snd.rings.get ((0 : Nat) + (Int.toNat x.fst))).x.closed)) fun (y2 : R_f1d) =>
 (.need ((true && true) && ((Nat.beq x.snd.rings.n x.snd.rings.n) && (Nat.blt ((0 : Nat) + (Int.toNat x.fst)) x.snd.rings.n))) <|
 (.side ((fun v : Nat → V => v = v) (fun i3 => (cond (Nat.beq i3 ((0 : Nat) + (Int.toNat x.fst))) (V.ptr (Id.loc 28 0) List.nil) (V.Aa (cond (Nat.beq i3 ((0 : Nat) + (Int.toNat x.fst))) false (x.snd.rings.get i3).nil) (V.cons (V.cons (V.int IntKind.u64 (cond (Nat.beq i3 ((0 : Nat) + (Int.toNat x.fst))) y1.snd.snd.AA.tail (x.snd.rings.get i3).x.AA.tail)) (V.cons (V.Aq 36 1 (cond (Nat.beq i3 ((0 : Nat) + (Int.toNat x.fst))) y1.snd.snd.AA.AB.nil (x.snd.rings.get i3).x.AA.AB.nil) (cond (Nat.beq i3 ((0 : Nat) + (Int.toNat x.fst))) y1.snd.snd.AA.AB.n (x.snd.rings.get i3).x.AA.AB.n) (fun i4 => (V.int IntKind.u64 (cond (Nat.beq i3 ((0 : Nat) + (Int.toNat x.fst))) (y1.snd.snd.AA.AB.get i4) ((x.snd.rings.get i3).x.AA.AB.get i4))))) V.unit)) (V.cons (V.Aa (cond (Nat.beq i3 ((0 : Nat) + (Int.toNat x.fst))) y1.snd.snd.s.nil (x.snd.rings.get i3).x.s.nil) (V.cons (V.Aq 115 3 (cond (Nat.beq i3 ((0 : Nat) + (Int.toNat x.fst))) y1.snd.snd.s.x.l.nil (x.snd.rings.get i3).x.s.x.l.nil) (cond (Nat.beq i3 ((0 : Nat) + (Int.toNat x.fst))) y1.snd.snd.s.x.l.n (x.snd.rings.get i3).x.s.x.l.n) (fun i4 => (V.cons (V.int IntKind.u64 (cond (Nat.beq i3 ((0 : Nat) + (Int.toNat x.fst))) (y1.snd.snd.s.x.l.get i4).AQ ((x.snd.rings.get i3).x.s.x.l.get i4).AQ)) (V.cons (V.int IntKind.u64 (cond (Nat.beq i3 ((0 : Nat) + (Int.toNat x.fst))) (y1.snd.snd.s.x.l.get i4).Value ((x.snd.rings.get i3).x.s.x.l.get i4).Value)) (V.cons (V.int IntKind.i64 (cond (Nat.beq i3 ((0 : Nat) + (Int.toNat x.fst))) (y1.snd.snd.s.x.l.get i4).Left ((x.snd.rings.get i3).x.s.x.l.get i4).Left)) V.unit))))) (V.cons (V.int IntKind.i64 (cond (Nat.beq i3 ((0 : Nat) + (Int.toNat x.fst))) y1.snd.snd.s.x.AP (x.snd.rings.get i3).x.s.x.AP)) V.unit))) (V.cons (V.int IntKind.u64 (cond (Nat.beq i3 ((0 : Nat) + (Int.toNat x.fst))) y1.snd.snd.most (x.snd.rings.get i3).x.most)) (V.cons (V.bool (cond (Nat.beq i3 ((0 : Nat) + (Int.toNat x.fst))) y1.snd.snd.closed (x.snd.rings.get i3).x.closed)) V.unit)))))))) <|
 (.need ((true && true) && (Nat.beq x.snd.rings.n x.snd.rings.n)) <|
 (.need (BA x.fst x.snd.p.AK.n) <|
 (.call con_fb ((x.snd.p.AK.get (Int.toNat x.fst)), (TRs.mk (IntKind.u64.wrap (y2.A4 + 1)) y2.An y2.B4 y2.Aw)) fun (y3 : R_fb) =>
 (.ite (Ad y3.snd 0)
 (.need (BA x.fst x.snd.rings.n) <|
 (.need ((Nat.beq x.snd.rings.n x.snd.rings.n) && true) <|
 (.need ((true && true) && (Nat.beq x.snd.rings.n x.snd.rings.n)) <|
 (.ret (TFa.mk x.snd.p x.snd.threads (Sl.mk x.snd.rings.nil x.snd.rings.n (fun i4 => (Bx.mk (cond (Nat.beq i4 ((0 : Nat) + (Int.toNat x.fst))) y3.fst.nil (cond (Nat.beq i4 ((0 : Nat) + (Int.toNat x.fst))) false (cond (Nat.beq i4 ((0 : Nat) + (Int.toNat x.fst))) false (x.snd.rings.get i4).nil))) (TRr.mk (TRc.mk (cond (Nat.beq i4 ((0 : Nat) + (Int.toNat x.fst))) y3.fst.x.AA.tail (cond (Nat.beq i4 ((0 : Nat) + (Int.toNat x.fst))) (cond (Nat.beq ((0 : Nat) + (Int.toNat x.fst)) ((0 : Nat) + (Int.toNat x.fst))) y1.snd.snd.AA.tail (x.snd.rings.get ((0 : Nat) + (Int.toNat x.fst))).x.AA.tail) (cond (Nat.beq i4 ((0 : Nat) + (Int.toNat x.fst))) y1.snd.snd.AA.tail (x.snd.rings.get i4).x.AA.tail))) (Sl.mk (cond (Nat.beq i4 ((0 : Nat) + (Int.toNat x.fst))) y3.fst.x.AA.AB.nil (cond (Nat.beq i4 ((0 : Nat) + (Int.toNat x.fst))) (cond (Nat.beq ((0 : Nat) + (Int.toNat x.fst)) ((0 : Nat) + (Int.toNat x.fst))) y1.snd.snd.AA.AB.nil (x.snd.rings.get ((0 : Nat) + (Int.toNat x.fst))).x.AA.AB.nil) (cond (Nat.beq i4 ((0 : Nat) + (Int.toNat x.fst))) y1.snd.snd.AA.AB.nil (x.snd.rings.get i4).x.AA.AB.nil))) (cond (Nat.beq i4 ((0 : Nat) + (Int.toNat x.fst))) y3.fst.x.AA.AB.n (cond (Nat.beq i4 ((0 : Nat) + (Int.toNat x.fst))) (cond (Nat.beq ((0 : Nat) + (Int.toNat x.fst)) ((0 : Nat) + (Int.toNat x.fst))) y1.snd.snd.AA.AB.n (x.snd.rings.get ((0 : Nat) + (Int.toNat x.fst))).x.AA.AB.n) (cond (Nat.beq i4 ((0 : Nat) + (Int.toNat x.fst))) y1.snd.snd.AA.AB.n (x.snd.rings.get i4).x.AA.AB.n))) (fun i5 => (cond (Nat.beq i4 ((0 : Nat) + (Int.toNat x.fst))) (y3.fst.x.AA.AB.get i5) (cond (Nat.beq i4 ((0 : Nat) + (Int.toNat x.fst))) (cond (Nat.beq ((0 : Nat) + (Int.toNat x.fst)) ((0 : Nat) + (Int.toNat x.fst))) (y1.snd.snd.AA.AB.get i5) ((x.snd.rings.get ((0 : Nat) + (Int.toNat x.fst))).x.AA.AB.get i5)) (cond (Nat.beq i4 ((0 : Nat) + (Int.toNat x.fst))) (y1.snd.snd.AA.AB.get i5) ((x.snd.rings.get i4).x.AA.AB.get i5))))))) (Bx.mk (cond (Nat.beq i4 ((0 : Nat) + (Int.toNat x.fst))) y3.fst.x.s.nil (cond (Nat.beq i4 ((0 : Nat) + (Int.toNat x.fst))) (cond (Nat.beq ((0 : Nat) + (Int.toNat x.fst)) ((0 : Nat) + (Int.toNat x.fst))) y1.snd.snd.s.nil (x.snd.rings.get ((0 : Nat) + (Int.toNat x.fst))).x.s.nil) (cond (Nat.beq i4 ((0 : Nat) + (Int.toNat x.fst))) y1.snd.snd.s.nil (x.snd.rings.get i4).x.s.nil))) (TSs.mk (Sl.mk (cond (Nat.beq i4 ((0 : Nat) + (Int.toNat x.fst))) y3.fst.x.s.x.l.nil (cond (Nat.beq i4 ((0 : Nat) + (Int.toNat x.fst))) (cond (Nat.beq ((0 : Nat) + (Int.toNat x.fst)) ((0 : Nat) + (Int.toNat x.fst))) y1.snd.snd.s.x.l.nil (x.snd.rings.get ((0 : Nat) + (Int.toNat x.fst))).x.s.x.l.nil) (cond (Nat.beq i4 ((0 : Nat) + (Int.toNat x.fst))) y1.snd.snd.s.x.l.nil (x.snd.rings.get i4).x.s.x.l.nil))) (cond (Nat.beq i4 ((0 : Nat) + (Int.toNat x.fst))) y3.fst.x.s.x.l.n (cond (Nat.beq i4 ((0 : Nat) + (Int.toNat x.fst))) (cond (Nat.beq ((0 : Nat) + (Int.toNat x.fst)) ((0 : Nat) + (Int.toNat x.fst))) y1.snd.snd.s.x.l.n (x.snd.rings.get ((0 : Nat) + (Int.toNat x.fst))).x.s.x.l.n) (cond (Nat.beq i4 ((0 : Nat) + (Int.toNat x.fst))) y1.snd.snd.s.x.l.n (x.snd.rings.get i4).x.s.x.l.n))) (fun i5 => (TSo.mk (cond (Nat.beq i4 ((0 : Nat) + (Int.toNat x.fst))) (y3.fst.x.s.x.l.get i5).AQ (cond (Nat.beq i4 ((0 : Nat) + (Int.toNat x.fst))) (cond (Nat.beq ((0 : Nat) + (Int.toNat x.fst)) ((0 : Nat) + (Int.toNat x.fst))) (y1.snd.snd.s.x.l.get i5).AQ ((x.snd.rings.get ((0 : Nat) + (Int.toNat x.fst))).x.s.x.l.get i5).AQ) (cond (Nat.beq i4 ((0 : Nat) + (Int.toNat x.fst))) (y1.snd.snd.s.x.l.get i5).AQ ((x.snd.rings.get i4).x.s.x.l.get i5).AQ))) (cond (Nat.beq i4 ((0 : Nat) + (Int.toNat x.fst))) (y3.fst.x.s.x.l.get i5).Value (cond (Nat.beq i4 ((0 : Nat) + (Int.toNat x.fst))) (cond (Nat.beq ((0 : Nat) + (Int.toNat x.fst)) ((0 : Nat) + (Int.toNat x.fst))) (y1.snd.snd.s.x.l.get i5).Value ((x.snd.rings.get ((0 : Nat) + (Int.toNat x.fst))).x.s.x.l.get i5).Value) (cond (Nat.beq i4 ((0 : Nat) + (Int.toNat x.fst))) (y1.snd.snd.s.x.l.get i5).Value ((x.snd.rings.get i4).x.s.x.l.get i5).Value))) (cond (Nat.beq i4 ((0 : Nat) + (Int.toNat x.fst))) (y3.fst.x.s.x.l.get i5).Left (cond (Nat.beq i4 ((0 : Nat) + (Int.toNat x.fst))) (cond (Nat.beq ((0 : Nat) + (Int.toNat x.fst)) ((0 : Nat) + (Int.toNat x.fst))) (y1.snd.snd.s.x.l.get i5).Left ((x.snd.rings.get ((0 : Nat) + (Int.toNat x.fst))).x.s.x.l.get i5).Left) (cond (Nat.beq i4 ((0 : Nat) + (Int.toNat x.fst))) (y1.snd.snd.s.x.l.get i5).Left ((x.snd.rings.get i4).x.s.x.l.get i5).Left)))))) (cond (Nat.beq i4 ((0 : Nat) + (Int.toNat x.fst))) y3.fst.x.s.x.AP (cond (Nat.beq i4 ((0 : Nat) + (Int.toNat x.fst))) (cond (Nat.beq ((0 : Nat) + (Int.toNat x.fst)) ((0 : Nat) + (Int.toNat x.fst))) y1.snd.snd.s.x.AP (x.snd.rings.get ((0 : Nat) + (Int.toNat x.fst))).x.s.x.AP) (cond (Nat.beq i4 ((0 : Nat) + (Int.toNat x.fst))) y1.snd.snd.s.x.AP (x.snd.rings.get i4).x.s.x.AP))))) (cond (Nat.beq i4 ((0 : Nat) + (Int.toNat x.fst))) y3.fst.x.most (cond (Nat.beq i4 ((0 : Nat) + (Int.toNat x.fst))) (cond (Nat.beq ((0 : Nat) + (Int.toNat x.fst)) ((0 : Nat) + (Int.toNat x.fst))) y1.snd.snd.most (x.snd.rings.get ((0 : Nat) + (Int.toNat x.fst))).x.most) (cond (Nat.beq i4 ((0 : Nat) + (Int.toNat x.fst))) y1.snd.snd.most (x.snd.rings.get i4).x.most))) (cond (Nat.beq i4 ((0 : Nat) + (Int.toNat x.fst))) y3.fst.x.closed (cond (Nat.beq i4 ((0 : Nat) + (Int.toNat x.fst))) (cond (Nat.beq ((0 : Nat) + (Int.toNat x.fst)) ((0 : Nat) + (Int.toNat x.fst))) y1.snd.snd.closed (x.snd.rings.get ((0 : Nat) + (Int.toNat x.fst))).x.closed) (cond (Nat.beq i4 ((0 : Nat) + (Int.toNat x.fst))) y1.snd.snd.closed (x.snd.rings.get i4).x.closed))))))) x.snd.now x.snd.reads x.snd.ended)))))
 (.ret (TFa.mk x.snd.p x.snd.threads (Sl.mk x.snd.rings.nil x.snd.rings.n (fun i4 => (Bx.mk (cond (Nat.beq i4 ((0 : Nat) + (Int.toNat x.fst))) false (cond (Nat.beq i4 ((0 : Nat) + (Int.toNat x.fst))) false (x.snd.rings.get i4).nil)) (TRr.mk (TRc.mk (cond (Nat.beq i4 ((0 : Nat) + (Int.toNat x.fst))) (cond (Nat.beq ((0 : Nat) + (Int.toNat x.fst)) ((0 : Nat) + (Int.toNat x.fst))) y1.snd.snd.AA.tail (x.snd.rings.get ((0 : Nat) + (Int.toNat x.fst))).x.AA.tail) (cond (Nat.beq i4 ((0 : Nat) + (Int.toNat x.fst))) y1.snd.snd.AA.tail (x.snd.rings.get i4).x.AA.tail)) (Sl.mk (cond (Nat.beq i4 ((0 : Nat) + (Int.toNat x.fst))) (cond (Nat.beq ((0 : Nat) + (Int.toNat x.fst)) ((0 : Nat) + (Int.toNat x.fst))) y1.snd.snd.AA.AB.nil (x.snd.rings.get ((0 : Nat) + (Int.toNat x.fst))).x.AA.AB.nil) (cond (Nat.beq i4 ((0 : Nat) + (Int.toNat x.fst))) y1.snd.snd.AA.AB.nil (x.snd.rings.get i4).x.AA.AB.nil)) (cond (Nat.beq i4 ((0 : Nat) + (Int.toNat x.fst))) (cond (Nat.beq ((0 : Nat) + (Int.toNat x.fst)) ((0 : Nat) + (Int.toNat x.fst))) y1.snd.snd.AA.AB.n (x.snd.rings.get ((0 : Nat) + (Int.toNat x.fst))).x.AA.AB.n) (cond (Nat.beq i4 ((0 : Nat) + (Int.toNat x.fst))) y1.snd.snd.AA.AB.n (x.snd.rings.get i4).x.AA.AB.n)) (fun i5 => (cond (Nat.beq i4 ((0 : Nat) + (Int.toNat x.fst))) (cond (Nat.beq ((0 : Nat) + (Int.toNat x.fst)) ((0 : Nat) + (Int.toNat x.fst))) (y1.snd.snd.AA.AB.get i5) ((x.snd.rings.get ((0 : Nat) + (Int.toNat x.fst))).x.AA.AB.get i5)) (cond (Nat.beq i4 ((0 : Nat) + (Int.toNat x.fst))) (y1.snd.snd.AA.AB.get i5) ((x.snd.rings.get i4).x.AA.AB.get i5)))))) (Bx.mk (cond (Nat.beq i4 ((0 : Nat) + (Int.toNat x.fst))) (cond (Nat.beq ((0 : Nat) + (Int.toNat x.fst)) ((0 : Nat) + (Int.toNat x.fst))) y1.snd.snd.s.nil (x.snd.rings.get ((0 : Nat) + (Int.toNat x.fst))).x.s.nil) (cond (Nat.beq i4 ((0 : Nat) + (Int.toNat x.fst))) y1.snd.snd.s.nil (x.snd.rings.get i4).x.s.nil)) (TSs.mk (Sl.mk (cond (Nat.beq i4 ((0 : Nat) + (Int.toNat x.fst))) (cond (Nat.beq ((0 : Nat) + (Int.toNat x.fst)) ((0 : Nat) + (Int.toNat x.fst))) y1.snd.snd.s.x.l.nil (x.snd.rings.get ((0 : Nat) + (Int.toNat x.fst))).x.s.x.l.nil) (cond (Nat.beq i4 ((0 : Nat) + (Int.toNat x.fst))) y1.snd.snd.s.x.l.nil (x.snd.rings.get i4).x.s.x.l.nil)) (cond (Nat.beq i4 ((0 : Nat) + (Int.toNat x.fst))) (cond (Nat.beq ((0 : Nat) + (Int.toNat x.fst)) ((0 : Nat) + (Int.toNat x.fst))) y1.snd.snd.s.x.l.n (x.snd.rings.get ((0 : Nat) + (Int.toNat x.fst))).x.s.x.l.n) (cond (Nat.beq i4 ((0 : Nat) + (Int.toNat x.fst))) y1.snd.snd.s.x.l.n (x.snd.rings.get i4).x.s.x.l.n)) (fun i5 => (TSo.mk (cond (Nat.beq i4 ((0 : Nat) + (Int.toNat x.fst))) (cond (Nat.beq ((0 : Nat) + (Int.toNat x.fst)) ((0 : Nat) + (Int.toNat x.fst))) (y1.snd.snd.s.x.l.get i5).AQ ((x.snd.rings.get ((0 : Nat) + (Int.toNat x.fst))).x.s.x.l.get i5).AQ) (cond (Nat.beq i4 ((0 : Nat) + (Int.toNat x.fst))) (y1.snd.snd.s.x.l.get i5).AQ ((x.snd.rings.get i4).x.s.x.l.get i5).AQ)) (cond (Nat.beq i4 ((0 : Nat) + (Int.toNat x.fst))) (cond (Nat.beq ((0 : Nat) + (Int.toNat x.fst)) ((0 : Nat) + (Int.toNat x.fst))) (y1.snd.snd.s.x.l.get i5).Value ((x.snd.rings.get ((0 : Nat) + (Int.toNat x.fst))).x.s.x.l.get i5).Value) (cond (Nat.beq i4 ((0 : Nat) + (Int.toNat x.fst))) (y1.snd.snd.s.x.l.get i5).Value ((x.snd.rings.get i4).x.s.x.l.get i5).Value)) (cond (Nat.beq i4 ((0 : Nat) + (Int.toNat x.fst))) (cond (Nat.beq ((0 : Nat) + (Int.toNat x.fst)) ((0 : Nat) + (Int.toNat x.fst))) (y1.snd.snd.s.x.l.get i5).Left ((x.snd.rings.get ((0 : Nat) + (Int.toNat x.fst))).x.s.x.l.get i5).Left) (cond (Nat.beq i4 ((0 : Nat) + (Int.toNat x.fst))) (y1.snd.snd.s.x.l.get i5).Left ((x.snd.rings.get i4).x.s.x.l.get i5).Left))))) (cond (Nat.beq i4 ((0 : Nat) + (Int.toNat x.fst))) (cond (Nat.beq ((0 : Nat) + (Int.toNat x.fst)) ((0 : Nat) + (Int.toNat x.fst))) y1.snd.snd.s.x.AP (x.snd.rings.get ((0 : Nat) + (Int.toNat x.fst))).x.s.x.AP) (cond (Nat.beq i4 ((0 : Nat) + (Int.toNat x.fst))) y1.snd.snd.s.x.AP (x.snd.rings.get i4).x.s.x.AP)))) (cond (Nat.beq i4 ((0 : Nat) + (Int.toNat x.fst))) (cond (Nat.beq ((0 : Nat) + (Int.toNat x.fst)) ((0 : Nat) + (Int.toNat x.fst))) y1.snd.snd.most (x.snd.rings.get ((0 : Nat) + (Int.toNat x.fst))).x.most) (cond (Nat.beq i4 ((0 : Nat) + (Int.toNat x.fst))) y1.snd.snd.most (x.snd.rings.get i4).x.most)) (cond (Nat.beq i4 ((0 : Nat) + (Int.toNat x.fst))) (cond (Nat.beq ((0 : Nat) + (Int.toNat x.fst)) ((0 : Nat) + (Int.toNat x.fst))) y1.snd.snd.closed (x.snd.rings.get ((0 : Nat) + (Int.toNat x.fst))).x.closed) (cond (Nat.beq i4 ((0 : Nat) + (Int.toNat x.fst))) y1.snd.snd.closed (x.snd.rings.get i4).x.closed)))))) x.snd.now x.snd.reads x.snd.ended))))))))))))))))))
theorem sd_f1x (x : X_f1x) : (tt_f1x x).AH :=
 (TT.sN (TT.sN (TT.sC fun _ => (TT.sN (TT.sS rfl (TT.sN (TT.sI TT.sR (TT.sN (TT.sN (TT.sC fun _ => (TT.sN (TT.sS rfl (TT.sN (TT.sN (TT.sC fun _ => (TT.sI (TT.sN (TT.sN (TT.sN TT.sR))) TT.sR))))))))))))))))
def D_f1x : AV X_f1x R_f1x := .of tt_f1x
def con_f1x : BC Tryz.prog :=
 CH 48 J_f1x S_f1x D_f1x 2 1 [.any, .any] (lk mxk lbn sd_f1x)
abbrev X_f29 : Type := Int × Int × TSs
abbrev R_f29 : Type := Int × TSs
def J_f29 : BH Tryz.prog :=
 BR Tryz.prog Tryz.f75 43 [] [(8, [.close (.loc 14 0)]), (10, [.close (.loc 14 0)]), (11, [.close (.loc 14 0)])] [(5, [.Gb (.par 0) [.BN 0 0] 14])] [.close (.loc 14 0)] [.any] [sh_TSs] [con_fm, con_f25, con_f2h] R_f29 [(0, [⟨.loc 14 0, .par 0, [.BN 0 0], none, none⟩])] fun y => [(V.int .i64) y.1, e_TSs y.2]
def S_f29 : AR :=
 Aj Tryz.f75 3 1 X_f29 (fun x => [(V.ptr (.par 0) []), (V.int .u64) x.1, (V.int .u64) x.2.1, e_TSs x.2.2]) fun l => (dI (at_ l 1), dI (at_ l 2), d_TSs (at_ l 3))
def tt_f29 (x : X_f29) : TT Tryz.prog R_f29 :=
 (.ite (Bh 4611686018427387904 x.fst)
 (.ret (1, x.snd.snd))
 (.call con_fm (x.fst, ((TSs_L0.mk (Ln.mk x.snd.snd.l.nil x.snd.snd.l.n) x.snd.snd.AP), (Ar.mk x.snd.snd.l.n x.snd.snd.l.get))) fun (y1 : R_fm) =>
 (.need ((Nat.beq x.snd.snd.l.n y1.snd) && true) <|
 (.call con_f25 x.fst fun (y2 : R_f25) =>
 (.ite (Bu (x.snd.snd.l.get y1.fst).AQ y2)
 (.need ((true && true) && (Nat.beq x.snd.snd.l.n x.snd.snd.l.n)) <|
 (.ret (8, x.snd.snd)))
 (.need ((Nat.beq x.snd.snd.l.n y1.snd) && true) <|
 (.call con_f25 x.fst fun (y3 : R_f25) =>
 (.ite (Bu y3 (x.snd.snd.l.get y1.fst).AQ)
 (.need ((true && true) && (Nat.beq x.snd.snd.l.n x.snd.snd.l.n)) <|
 (.ret (11, x.snd.snd)))
 (.call con_f2h x.fst fun (y4 : R_f2h) =>
 (.need (Bh 0 x.snd.snd.AP) <|
 (.need ((Nat.beq x.snd.snd.l.n y1.snd) && true) <|
 (.need ((true && true) && (Nat.beq x.snd.snd.l.n x.snd.snd.l.n)) <|
 (.ret (0, (TSs.mk (Sl.mk x.snd.snd.l.nil x.snd.snd.l.n (fun i5 => (TSo.mk (cond (Nat.beq i5 y1.fst) y4 (x.snd.snd.l.get i5).AQ) (cond (Nat.beq i5 y1.fst) x.snd.fst (x.snd.snd.l.get i5).Value) (cond (Nat.beq i5 y1.fst) (IntKind.i64.wrap ((shl IntKind.i64 1 x.snd.snd.AP) - 1)) (x.snd.snd.l.get i5).Left)))) x.snd.snd.AP)))))))))))))))
theorem sd_f29 (x : X_f29) : (tt_f29 x).AH :=
 (TT.sI TT.sR (TT.sC fun _ => (TT.sN (TT.sC fun _ => (TT.sI (TT.sN TT.sR) (TT.sN (TT.sC fun _ => (TT.sI (TT.sN TT.sR) (TT.sC fun _ => (TT.sN (TT.sN (TT.sN TT.sR))))))))))))
def D_f29 : AV X_f29 R_f29 := .of tt_f29
def con_f29 : BC Tryz.prog :=
 CH 75 J_f29 S_f29 D_f29 3 1 [.any, .any, .any] (lk mxk lbn sd_f29)
abbrev X_f21 : Type := Int × Int × TRr
abbrev R_f21 : Type := Int × TRr
def J_f21 : BH Tryz.prog :=
 BR Tryz.prog Tryz.f49 25 [] [] [] [.close (.loc 21 0)] [.any] [sh_TRr] [con_f29] R_f21 [] fun y => [(V.int .i64) y.1, e_TRr y.2]
def S_f21 : AR :=
 Aj Tryz.f49 3 1 X_f21 (fun x => [(V.ptr (.par 0) []), (V.int .u64) x.1, (V.int .u64) x.2.1, e_TRr x.2.2]) fun l => (dI (at_ l 1), dI (at_ l 2), d_TRr (at_ l 3))
def tt_f21 (x : X_f21) : TT Tryz.prog R_f21 :=
 (.ite (Bh x.snd.snd.AA.tail x.fst)
 (.ret (11, x.snd.snd))
 (.need (true && (!x.snd.snd.s.nil)) <|
 (.call con_f29 (x.fst, (x.snd.fst, x.snd.snd.s.x)) fun (y1 : R_f29) =>
 (.ret (y1.fst, (TRr.mk x.snd.snd.AA (Bx.mk false y1.snd) x.snd.snd.most x.snd.snd.closed))))))
theorem sd_f21 (x : X_f21) : (tt_f21 x).AH :=
 (TT.sI TT.sR (TT.sN (TT.sC fun _ => TT.sR)))
def D_f21 : AV X_f21 R_f21 := .of tt_f21
def con_f21 : BC Tryz.prog :=
 CH 49 J_f21 S_f21 D_f21 3 1 [.any, .any, .any] (lk mxk lbn sd_f21)
abbrev X_f11 : Type := Int × TRr
abbrev R_f11 : Type := Int × Int × TRr
def J_f11 : BH Tryz.prog :=
 BR Tryz.prog Tryz.f50 49 [] [(10, [.close (.loc 34 0)])] [] [.close (.loc 44 0), .close (.loc 34 0)] [.any, .any] [sh_TRr] [con_f15, con_fp] R_f11 [] fun y => [V.CG (V.cons ((V.int .u64) y.1) (V.cons ((V.int .i64) y.2.1) (V.unit))), e_TRr y.2.2]
def S_f11 : AR :=
 Aj Tryz.f50 2 1 X_f11 (fun x => [(V.ptr (.par 0) []), (V.int .i64) x.1, e_TRr x.2]) fun l => (dI (at_ l 1), d_TRr (at_ l 2))
structure X_f11_9 where
 LV : Int
 Ae : TRr
def S_f11_9 : AR :=
 Ak Tryz.f50 9 (an [0, 1]) [sh_TRr] [] X_f11_9 (fun x => [(V.ptr (.par 0) []), (V.int .i64) x.LV, e_TRr x.Ae]) fun l => ⟨dI (at_ l 1), d_TRr (at_ l 2)⟩
def tt_f11_9 (x : X_f11_9) : TT Tryz.prog R_f11 :=
 (.need (BA x.LV x.Ae.AA.AB.n) <|
 (.need ((Nat.beq x.Ae.AA.AB.n x.Ae.AA.AB.n) && true) <|
 (.need (BA x.LV x.Ae.AA.AB.n) <|
 (.need ((Nat.beq x.Ae.AA.AB.n x.Ae.AA.AB.n) && true) <|
 (.need ((true && true) && (Nat.beq x.Ae.AA.AB.n x.Ae.AA.AB.n)) <|
 (.need (BA x.LV x.Ae.AA.AB.n) <|
 (.need ((Nat.beq x.Ae.AA.AB.n x.Ae.AA.AB.n) && true) <|
 (.need ((true && true) && (Nat.beq x.Ae.AA.AB.n x.Ae.AA.AB.n)) <|
 (.ret ((IntKind.u64.wrap ((cond (Nat.beq ((0 : Nat) + (Int.toNat x.LV)) ((0 : Nat) + (Int.toNat x.LV))) (IntKind.u64.wrap ((x.Ae.AA.AB.get ((0 : Nat) + (Int.toNat x.LV))) + 1)) (x.Ae.AA.AB.get ((0 : Nat) + (Int.toNat x.LV)))) - 1)), (0, (TRr.mk (TRc.mk x.Ae.AA.tail (Sl.mk x.Ae.AA.AB.nil x.Ae.AA.AB.n (fun i1 => (cond (Nat.beq i1 ((0 : Nat) + (Int.toNat x.LV))) (IntKind.u64.wrap ((x.Ae.AA.AB.get ((0 : Nat) + (Int.toNat x.LV))) + 1)) (x.Ae.AA.AB.get i1))))) x.Ae.s x.Ae.most x.Ae.closed))))))))))))
theorem sd_f11_9 (x : X_f11_9) : (tt_f11_9 x).AH :=
 (TT.sN (TT.sN (TT.sN (TT.sN (TT.sN (TT.sN (TT.sN (TT.sN TT.sR))))))))
def D_f11_9 : AV X_f11_9 R_f11 := .of tt_f11_9
theorem ok_f11_9 : AZ J_f11 S_f11_9 D_f11_9 :=
 lk mxk lbn sd_f11_9
def tt_f11 (x : X_f11) : TT Tryz.prog R_f11 :=
 (.call con_fp (x.fst, x.snd.AA) fun (y1 : R_fp) =>
 (.ite (!y1)
 (.ret (0, (1, x.snd)))
 (.call con_f15 x fun (y2 : R_f15) =>
 (.ite y2
 (.ite x.snd.closed
 (.ret (0, (10, x.snd)))
 (.call con_f15 x fun (y3 : R_f15) =>
 (.ite y3
 (.ret (0, (9, x.snd)))
 (.Ac S_f11_9 D_f11_9 (X_f11_9.mk x.fst x.snd)))))
 (.call con_f15 x fun (y3 : R_f15) =>
 (.ite y3
 (.ret (0, (9, x.snd)))
 (.Ac S_f11_9 D_f11_9 (X_f11_9.mk x.fst x.snd))))))))
theorem sd_f11 (x : X_f11) : (tt_f11 x).AH :=
 (TT.sC fun _ => (TT.sI TT.sR (TT.sC fun _ => (TT.sI (TT.sI TT.sR (TT.sC fun _ => (TT.sI TT.sR TT.sJ))) (TT.sC fun _ => (TT.sI TT.sR TT.sJ))))))
def D_f11 : AV X_f11 R_f11 := .of tt_f11
def con_f11 : BC Tryz.prog :=
 CH 50 J_f11 S_f11 D_f11 2 1 [.any, .any] (lk mxk (lbc ok_f11_9 rfl lbn) sd_f11)
abbrev X_f2a : Type := Int × Int × TSs
abbrev R_f2a : Type := Int × Int × TSs
def J_f2a : BH Tryz.prog :=
 BR Tryz.prog Tryz.f77 52 [] [(9, [.close (.loc 44 0), .close (.loc 20 0)])] [(4, [.Gb (.par 0) [.BN 0 0] 20])] [.close (.loc 44 0), .close (.loc 20 0)] [.any, .any] [sh_TSs] [con_fi, con_fm, con_f25] R_f2a [(0, [⟨.loc 20 0, .par 0, [.BN 0 0], none, none⟩])] fun y => [V.CG (V.cons ((V.int .u64) y.1) (V.cons ((V.int .i64) y.2.1) (V.unit))), e_TSs y.2.2]
def S_f2a : AR :=
 Aj Tryz.f77 3 1 X_f2a (fun x => [(V.ptr (.par 0) []), (V.int .i64) x.1, (V.int .u64) x.2.1, e_TSs x.2.2]) fun l => (dI (at_ l 1), dI (at_ l 2), d_TSs (at_ l 3))
def tt_f2a (x : X_f2a) : TT Tryz.prog R_f2a :=
 (.call con_fi x fun (y1 : R_fi) =>
 (.ite (!(Ad y1 0))
 (.ret (0, (y1, x.snd.snd)))
 (.call con_fm (x.snd.fst, ((TSs_L0.mk (Ln.mk x.snd.snd.l.nil x.snd.snd.l.n) x.snd.snd.AP), (Ar.mk x.snd.snd.l.n x.snd.snd.l.get))) fun (y2 : R_fm) =>
 (.need ((Nat.beq x.snd.snd.l.n y2.snd) && true) <|
 (.need ((Nat.beq x.snd.snd.l.n y2.snd) && true) <|
 (.need (Bh 0 x.fst) <|
 (.need ((Nat.beq x.snd.snd.l.n y2.snd) && true) <|
 (.need ((Nat.beq x.snd.snd.l.n y2.snd) && true) <|
 (.ite (Ad (cond (Nat.beq y2.fst y2.fst) (Vm.bits .andNot IntKind.i64 (x.snd.snd.l.get y2.fst).Left (shl IntKind.i64 1 x.fst)) (x.snd.snd.l.get y2.fst).Left) 0)
 (.call con_f25 (IntKind.u64.wrap (x.snd.fst + (IntKind.u64.wrap ((x.snd.snd.l.n : Nat) : Int)))) fun (y3 : R_f25) =>
 (.need ((Nat.beq x.snd.snd.l.n y2.snd) && true) <|
 (.need ((true && true) && (Nat.beq x.snd.snd.l.n x.snd.snd.l.n)) <|
 (.ret ((x.snd.snd.l.get y2.fst).Value, (0, (TSs.mk (Sl.mk x.snd.snd.l.nil x.snd.snd.l.n (fun i4 => (TSo.mk (cond (Nat.beq i4 y2.fst) y3 (cond (Nat.beq i4 y2.fst) (x.snd.snd.l.get y2.fst).AQ (x.snd.snd.l.get i4).AQ)) (cond (Nat.beq i4 y2.fst) (0 : Int) (cond (Nat.beq i4 y2.fst) (x.snd.snd.l.get y2.fst).Value (x.snd.snd.l.get i4).Value)) (cond (Nat.beq i4 y2.fst) (0 : Int) (cond (Nat.beq i4 y2.fst) (Vm.bits .andNot IntKind.i64 (x.snd.snd.l.get y2.fst).Left (shl IntKind.i64 1 x.fst)) (x.snd.snd.l.get i4).Left))))) x.snd.snd.AP)))))))
 (.need ((true && true) && (Nat.beq x.snd.snd.l.n x.snd.snd.l.n)) <|
 (.ret ((x.snd.snd.l.get y2.fst).Value, (0, (TSs.mk (Sl.mk x.snd.snd.l.nil x.snd.snd.l.n (fun i3 => (TSo.mk (cond (Nat.beq i3 y2.fst) (x.snd.snd.l.get y2.fst).AQ (x.snd.snd.l.get i3).AQ) (cond (Nat.beq i3 y2.fst) (x.snd.snd.l.get y2.fst).Value (x.snd.snd.l.get i3).Value) (cond (Nat.beq i3 y2.fst) (Vm.bits .andNot IntKind.i64 (x.snd.snd.l.get y2.fst).Left (shl IntKind.i64 1 x.fst)) (x.snd.snd.l.get i3).Left)))) x.snd.snd.AP))))))))))))))
theorem sd_f2a (x : X_f2a) : (tt_f2a x).AH :=
 (TT.sC fun _ => (TT.sI TT.sR (TT.sC fun _ => (TT.sN (TT.sN (TT.sN (TT.sN (TT.sN (TT.sI (TT.sC fun _ => (TT.sN (TT.sN TT.sR))) (TT.sN TT.sR))))))))))
def D_f2a : AV X_f2a R_f2a := .of tt_f2a
def con_f2a : BC Tryz.prog :=
 CH 77 J_f2a S_f2a D_f2a 3 1 [.any, .any, .any] (lk mxk lbn sd_f2a)
abbrev X_f22 : Type := Int × Int × TRr
abbrev R_f22 : Type := Int × Int × TRr
def J_f22 : BH Tryz.prog :=
 BR Tryz.prog Tryz.f51 38 [] [(6, [.close (.loc 24 0)]), (7, [.close (.loc 24 0)])] [] [.close (.loc 32 0), .close (.loc 24 0)] [.any, .any] [sh_TRr] [con_fp, con_f2a] R_f22 [] fun y => [V.CG (V.cons ((V.int .u64) y.1) (V.cons ((V.int .i64) y.2.1) (V.unit))), e_TRr y.2.2]
def S_f22 : AR :=
 Aj Tryz.f51 3 1 X_f22 (fun x => [(V.ptr (.par 0) []), (V.int .i64) x.1, (V.int .u64) x.2.1, e_TRr x.2.2]) fun l => (dI (at_ l 1), dI (at_ l 2), d_TRr (at_ l 3))
def tt_f22 (x : X_f22) : TT Tryz.prog R_f22 :=
 (.call con_fp (x.fst, x.snd.snd.AA) fun (y1 : R_fp) =>
 (.ite (!y1)
 (.ret (0, (1, x.snd.snd)))
 (.need (BA x.fst x.snd.snd.AA.AB.n) <|
 (.need ((Nat.beq x.snd.snd.AA.AB.n x.snd.snd.AA.AB.n) && true) <|
 (.ite (Bh (x.snd.snd.AA.AB.get ((0 : Nat) + (Int.toNat x.fst))) x.snd.fst)
 (.need ((true && true) && (Nat.beq x.snd.snd.AA.AB.n x.snd.snd.AA.AB.n)) <|
 (.ret (0, (11, x.snd.snd))))
 (.need ((true && true) && (Nat.beq x.snd.snd.AA.AB.n x.snd.snd.AA.AB.n)) <|
 (.need (true && (!x.snd.snd.s.nil)) <|
 (.call con_f2a (x.fst, (x.snd.fst, x.snd.snd.s.x)) fun (y2 : R_f2a) =>
 (.ret (y2.fst, (y2.snd.fst, (TRr.mk x.snd.snd.AA (Bx.mk false y2.snd.snd) x.snd.snd.most x.snd.snd.closed))))))))))))
theorem sd_f22 (x : X_f22) : (tt_f22 x).AH :=
 (TT.sC fun _ => (TT.sI TT.sR (TT.sN (TT.sN (TT.sI (TT.sN TT.sR) (TT.sN (TT.sN (TT.sC fun _ => TT.sR))))))))
def D_f22 : AV X_f22 R_f22 := .of tt_f22
def con_f22 : BC Tryz.prog :=
 CH 51 J_f22 S_f22 D_f22 3 1 [.any, .any, .any] (lk mxk lbn sd_f22)
abbrev X_f2b : Type := TRr
abbrev R_f2b : Type := Int × TRr
def J_f2b : BH Tryz.prog :=
 BR Tryz.prog Tryz.f52 8 [] [] [] [] [.any] [sh_TRr] [] R_f2b [] fun y => [(V.int .i64) y.1, e_TRr y.2]
def S_f2b : AR :=
 Aj Tryz.f52 1 1 X_f2b (fun x => [(V.ptr (.par 0) []), e_TRr x]) fun l => (d_TRr (at_ l 1))
def tt_f2b (x : X_f2b) : TT Tryz.prog R_f2b :=
 (.ret (0, (TRr.mk x.AA x.s x.most true)))
theorem sd_f2b (x : X_f2b) : (tt_f2b x).AH :=
 TT.sR
def D_f2b : AV X_f2b R_f2b := .of tt_f2b
def con_f2b : BC Tryz.prog :=
 CH 52 J_f2b S_f2b D_f2b 1 1 [.any] (lk mxk lbn sd_f2b)
abbrev X_fd : Type := TEv × TFa
abbrev R_fd : Type := TFa
def J_fd : BH Tryz.prog :=
 BR Tryz.prog Tryz.f25 131 [(3, 3), (48, 1), (101, 1)] [(8, [.close (.loc 27 0), .close (.loc 23 0)]), (9, [.close (.loc 27 0), .close (.loc 23 0)]), (10, [.close (.loc 42 0), .close (.loc 38 0), .close (.loc 27 0), .close (.loc 23 0)]), (11, [.close (.loc 42 0), .close (.loc 38 0), .close (.loc 27 0), .close (.loc 23 0)]), (12, [.close (.loc 56 0), .close (.loc 52 0), .close (.loc 42 0), .close (.loc 38 0), .close (.loc 27 0), .close (.loc 23 0)]), (13, [.close (.loc 56 0), .close (.loc 52 0), .close (.loc 42 0), .close (.loc 38 0), .close (.loc 27 0), .close (.loc 23 0)]), (14, [.close (.loc 73 0), .close (.loc 69 0), .close (.loc 56 0), .close (.loc 52 0), .close (.loc 42 0), .close (.loc 38 0), .close (.loc 27 0), .close (.loc 23 0)]), (15, [.close (.loc 73 0), .close (.loc 69 0), .close (.loc 56 0), .close (.loc 52 0), .close (.loc 42 0), .close (.loc 38 0), .close (.loc 27 0), .close (.loc 23 0)]), (16, [.close (.loc 73 0), .close (.loc 69 0), .close (.loc 56 0), .close (.loc 52 0), .close (.loc 42 0), .close (.loc 38 0), .close (.loc 27 0), .close (.loc 23 0)]), (17, [.close (.loc 73 0), .close (.loc 69 0), .close (.loc 56 0), .close (.loc 52 0), .close (.loc 42 0), .close (.loc 38 0), .close (.loc 27 0), .close (.loc 23 0)]), (18, [.close (.loc 73 0), .close (.loc 69 0), .close (.loc 56 0), .close (.loc 52 0), .close (.loc 42 0), .close (.loc 38 0), .close (.loc 27 0), .close (.loc 23 0)]), (19, [.close (.loc 73 0), .close (.loc 69 0), .close (.loc 56 0), .close (.loc 52 0), .close (.loc 42 0), .close (.loc 38 0), .close (.loc 27 0), .close (.loc 23 0)]), (20, [.close (.loc 73 0), .close (.loc 69 0), .close (.loc 56 0), .close (.loc 52 0), .close (.loc 42 0), .close (.loc 38 0), .close (.loc 27 0), .close (.loc 23 0)])] [(7, [.Gb (.par 0) [.BN 2 3] 23]), (9, [.Gb (.par 0) [.BN 2 3] 38]), (11, [.Gb (.par 0) [.BN 2 3] 52]), (13, [.Gb (.par 0) [.BN 2 3] 69]), (20, [.Gb (.par 0) [.BN 1 2] 105, .Gb (.par 0) [.BN 1 2] 120])] [.close (.loc 120 0), .close (.loc 105 0), .close (.loc 73 0), .close (.loc 69 0), .close (.loc 56 0), .close (.loc 52 0), .close (.loc 42 0), .close (.loc 38 0), .close (.loc 27 0), .close (.loc 23 0)] [] [sh_TFa] [con_fw, con_f1x, con_f2b, con_f21, con_f22, con_f11, con_f1u] R_fd [(0, [⟨.loc 23 0, .par 0, [.BN 2 3], none, none⟩, ⟨.loc 38 0, .par 0, [.BN 2 3], none, none⟩, ⟨.loc 52 0, .par 0, [.BN 2 3], none, none⟩, ⟨.loc 69 0, .par 0, [.BN 2 3], none, none⟩, ⟨.loc 105 0, .par 0, [.BN 1 2], none, none⟩, ⟨.loc 120 0, .par 0, [.BN 1 2], none, none⟩]), (20, [⟨.loc 23 0, .par 0, [.BN 2 3], none, none⟩, ⟨.loc 38 0, .par 0, [.BN 2 3], none, none⟩, ⟨.loc 52 0, .par 0, [.BN 2 3], none, none⟩, ⟨.loc 69 0, .par 0, [.BN 2 3], none, none⟩, ⟨.loc 105 0, .par 0, [.BN 1 2], none, none⟩, ⟨.loc 120 0, .par 0, [.BN 1 2], none, none⟩])] fun y => [V.CG (V.unit), e_TFa y]
def S_fd : AR :=
 Aj Tryz.f25 2 1 X_fd (fun x => [(V.ptr (.par 0) []), e_TEv x.1, e_TFa x.2]) fun l => (d_TEv (at_ l 1), d_TFa (at_ l 2))
structure X_fd_20 where
 E8 : TEv
 v_5 : Int
 Ae : TFa
def S_fd_20 : AR :=
 Ak Tryz.f25 20 (an [0, 3, 5]) [sh_TFa] [] X_fd_20 (fun x => [(V.ptr (.par 0) []), (DQ e_TEv) x.E8, (V.int .u64) x.v_5, e_TFa x.Ae]) fun l => ⟨(DR d_TEv) (at_ l 1), dI (at_ l 2), d_TFa (at_ l 3)⟩
def tt_fd_20 (x : X_fd_20) : TT Tryz.prog R_fd :=
 (.need (BA x.E8.Thread x.Ae.p.AD.n) <|
 (.need (BA x.E8.Thread x.Ae.threads.n) <|
 (.need ((Nat.beq x.Ae.threads.n x.Ae.threads.n) && true) <|
 (.call con_f1u ((x.Ae.p.AD.get (Int.toNat x.E8.Thread)), ((x.Ae.threads.get ((0 : Nat) + (Int.toNat x.E8.Thread))), (x.E8, x.v_5))) fun (y1 : R_f1u) =>
 (.need (BA x.E8.Thread x.Ae.threads.n) <|
 (.need ((Nat.beq x.Ae.threads.n x.Ae.threads.n) && true) <|
 (.need ((true && true) && (Nat.beq x.Ae.threads.n x.Ae.threads.n)) <|
 (.ret (TFa.mk x.Ae.p (Sl.mk x.Ae.threads.nil x.Ae.threads.n (fun i2 => (TTh.mk (cond (Nat.beq i2 ((0 : Nat) + (Int.toNat x.E8.Thread))) y1.fst.At (x.Ae.threads.get i2).At) (cond (Nat.beq i2 ((0 : Nat) + (Int.toNat x.E8.Thread))) y1.fst.Phase (x.Ae.threads.get i2).Phase) (cond (Nat.beq i2 ((0 : Nat) + (Int.toNat x.E8.Thread))) y1.fst.Ring (x.Ae.threads.get i2).Ring) (cond (Nat.beq i2 ((0 : Nat) + (Int.toNat x.E8.Thread))) y1.fst.Status (x.Ae.threads.get i2).Status) (cond (Nat.beq i2 ((0 : Nat) + (Int.toNat x.E8.Thread))) y1.fst.AJ (x.Ae.threads.get i2).AJ) (fun i3 => (cond (Nat.beq i2 ((0 : Nat) + (Int.toNat x.E8.Thread))) (y1.fst.Ao i3) ((x.Ae.threads.get i2).Ao i3))) (Sl.mk (cond (Nat.beq i2 ((0 : Nat) + (Int.toNat x.E8.Thread))) y1.fst.Seen.nil (x.Ae.threads.get i2).Seen.nil) (cond (Nat.beq i2 ((0 : Nat) + (Int.toNat x.E8.Thread))) y1.fst.Seen.n (x.Ae.threads.get i2).Seen.n) (fun i3 => (cond (Nat.beq i2 ((0 : Nat) + (Int.toNat x.E8.Thread))) (y1.fst.Seen.get i3) ((x.Ae.threads.get i2).Seen.get i3))))))) x.Ae.rings x.Ae.now x.Ae.reads x.Ae.ended)))))))))
theorem sd_fd_20 (x : X_fd_20) : (tt_fd_20 x).AH :=
 (TT.sN (TT.sN (TT.sN (TT.sC fun _ => (TT.sN (TT.sN (TT.sN TT.sR)))))))
def D_fd_20 : AV X_fd_20 R_fd := .of tt_fd_20
theorem ok_fd_20 : AZ J_fd S_fd_20 D_fd_20 :=
 lk mxk lbn sd_fd_20
def tt_fd (x : X_fd) : TT Tryz.prog R_fd :=
 (.call con_fw (x.fst.Thread, x.snd) fun (y1 : R_fw) =>
 (.ite (Ad x.fst.Kind 1)
 (.call con_f1x (x.fst.Ring, x.snd) fun (y2 : R_f1x) =>
 (.Ac S_fd_20 D_fd_20 (X_fd_20.mk x.fst 0 y2)))
 (.ite (Ad x.fst.Kind 2)
 (.need (BA x.fst.Ring x.snd.rings.n) <|
 (.need (((Nat.beq x.snd.rings.n x.snd.rings.n) && true) && (!(x.snd.rings.get ((0 : Nat) + (Int.toNat x.fst.Ring))).nil)) <|
 (.call con_f21 (x.fst.AJ, (y1.Value, (x.snd.rings.get ((0 : Nat) + (Int.toNat x.fst.Ring))).x)) fun (y2 : R_f21) =>
 (.need ((true && true) && ((Nat.beq x.snd.rings.n x.snd.rings.n) && (Nat.blt ((0 : Nat) + (Int.toNat x.fst.Ring)) x.snd.rings.n))) <|
 (.side ((fun v : Nat → V => v = v) (fun i3 => (cond (Nat.beq i3 ((0 : Nat) + (Int.toNat x.fst.Ring))) (V.ptr (Id.loc 27 0) List.nil) (V.Aa (x.snd.rings.get i3).nil (V.cons (V.cons (V.int IntKind.u64 (x.snd.rings.get i3).x.AA.tail) (V.cons (V.Aq 36 1 (x.snd.rings.get i3).x.AA.AB.nil (x.snd.rings.get i3).x.AA.AB.n (fun i4 => (V.int IntKind.u64 ((x.snd.rings.get i3).x.AA.AB.get i4)))) V.unit)) (V.cons (V.Aa (x.snd.rings.get i3).x.s.nil (V.cons (V.Aq 115 3 (x.snd.rings.get i3).x.s.x.l.nil (x.snd.rings.get i3).x.s.x.l.n (fun i4 => (V.cons (V.int IntKind.u64 ((x.snd.rings.get i3).x.s.x.l.get i4).AQ) (V.cons (V.int IntKind.u64 ((x.snd.rings.get i3).x.s.x.l.get i4).Value) (V.cons (V.int IntKind.i64 ((x.snd.rings.get i3).x.s.x.l.get i4).Left) V.unit))))) (V.cons (V.int IntKind.i64 (x.snd.rings.get i3).x.s.x.AP) V.unit))) (V.cons (V.int IntKind.u64 (x.snd.rings.get i3).x.most) (V.cons (V.bool (x.snd.rings.get i3).x.closed) V.unit)))))))) <|
 (.need ((true && true) && (Nat.beq x.snd.rings.n x.snd.rings.n)) <|
 (.Ac S_fd_20 D_fd_20 (X_fd_20.mk x.fst 0 (TFa.mk x.snd.p x.snd.threads (Sl.mk x.snd.rings.nil x.snd.rings.n (fun i3 => (Bx.mk (cond (Nat.beq i3 ((0 : Nat) + (Int.toNat x.fst.Ring))) false (x.snd.rings.get i3).nil) (TRr.mk (TRc.mk (cond (Nat.beq i3 ((0 : Nat) + (Int.toNat x.fst.Ring))) y2.snd.AA.tail (x.snd.rings.get i3).x.AA.tail) (Sl.mk (cond (Nat.beq i3 ((0 : Nat) + (Int.toNat x.fst.Ring))) y2.snd.AA.AB.nil (x.snd.rings.get i3).x.AA.AB.nil) (cond (Nat.beq i3 ((0 : Nat) + (Int.toNat x.fst.Ring))) y2.snd.AA.AB.n (x.snd.rings.get i3).x.AA.AB.n) (fun i4 => (cond (Nat.beq i3 ((0 : Nat) + (Int.toNat x.fst.Ring))) (y2.snd.AA.AB.get i4) ((x.snd.rings.get i3).x.AA.AB.get i4))))) (Bx.mk (cond (Nat.beq i3 ((0 : Nat) + (Int.toNat x.fst.Ring))) y2.snd.s.nil (x.snd.rings.get i3).x.s.nil) (TSs.mk (Sl.mk (cond (Nat.beq i3 ((0 : Nat) + (Int.toNat x.fst.Ring))) y2.snd.s.x.l.nil (x.snd.rings.get i3).x.s.x.l.nil) (cond (Nat.beq i3 ((0 : Nat) + (Int.toNat x.fst.Ring))) y2.snd.s.x.l.n (x.snd.rings.get i3).x.s.x.l.n) (fun i4 => (TSo.mk (cond (Nat.beq i3 ((0 : Nat) + (Int.toNat x.fst.Ring))) (y2.snd.s.x.l.get i4).AQ ((x.snd.rings.get i3).x.s.x.l.get i4).AQ) (cond (Nat.beq i3 ((0 : Nat) + (Int.toNat x.fst.Ring))) (y2.snd.s.x.l.get i4).Value ((x.snd.rings.get i3).x.s.x.l.get i4).Value) (cond (Nat.beq i3 ((0 : Nat) + (Int.toNat x.fst.Ring))) (y2.snd.s.x.l.get i4).Left ((x.snd.rings.get i3).x.s.x.l.get i4).Left)))) (cond (Nat.beq i3 ((0 : Nat) + (Int.toNat x.fst.Ring))) y2.snd.s.x.AP (x.snd.rings.get i3).x.s.x.AP))) (cond (Nat.beq i3 ((0 : Nat) + (Int.toNat x.fst.Ring))) y2.snd.most (x.snd.rings.get i3).x.most) (cond (Nat.beq i3 ((0 : Nat) + (Int.toNat x.fst.Ring))) y2.snd.closed (x.snd.rings.get i3).x.closed))))) x.snd.now x.snd.reads x.snd.ended)))))))))
 (.ite (Ad x.fst.Kind 3)
 (.need (BA x.fst.Ring x.snd.rings.n) <|
 (.need (((Nat.beq x.snd.rings.n x.snd.rings.n) && true) && (!(x.snd.rings.get ((0 : Nat) + (Int.toNat x.fst.Ring))).nil)) <|
 (.call con_f11 (y1.Reader, (x.snd.rings.get ((0 : Nat) + (Int.toNat x.fst.Ring))).x) fun (y2 : R_f11) =>
 (.need ((true && true) && ((Nat.beq x.snd.rings.n x.snd.rings.n) && (Nat.blt ((0 : Nat) + (Int.toNat x.fst.Ring)) x.snd.rings.n))) <|
 (.side ((fun v : Nat → V => v = v) (fun i3 => (cond (Nat.beq i3 ((0 : Nat) + (Int.toNat x.fst.Ring))) (V.ptr (Id.loc 42 0) List.nil) (V.Aa (x.snd.rings.get i3).nil (V.cons (V.cons (V.int IntKind.u64 (x.snd.rings.get i3).x.AA.tail) (V.cons (V.Aq 36 1 (x.snd.rings.get i3).x.AA.AB.nil (x.snd.rings.get i3).x.AA.AB.n (fun i4 => (V.int IntKind.u64 ((x.snd.rings.get i3).x.AA.AB.get i4)))) V.unit)) (V.cons (V.Aa (x.snd.rings.get i3).x.s.nil (V.cons (V.Aq 115 3 (x.snd.rings.get i3).x.s.x.l.nil (x.snd.rings.get i3).x.s.x.l.n (fun i4 => (V.cons (V.int IntKind.u64 ((x.snd.rings.get i3).x.s.x.l.get i4).AQ) (V.cons (V.int IntKind.u64 ((x.snd.rings.get i3).x.s.x.l.get i4).Value) (V.cons (V.int IntKind.i64 ((x.snd.rings.get i3).x.s.x.l.get i4).Left) V.unit))))) (V.cons (V.int IntKind.i64 (x.snd.rings.get i3).x.s.x.AP) V.unit))) (V.cons (V.int IntKind.u64 (x.snd.rings.get i3).x.most) (V.cons (V.bool (x.snd.rings.get i3).x.closed) V.unit)))))))) <|
 (.need ((true && true) && (Nat.beq x.snd.rings.n x.snd.rings.n)) <|
 (.Ac S_fd_20 D_fd_20 (X_fd_20.mk x.fst 0 (TFa.mk x.snd.p x.snd.threads (Sl.mk x.snd.rings.nil x.snd.rings.n (fun i3 => (Bx.mk (cond (Nat.beq i3 ((0 : Nat) + (Int.toNat x.fst.Ring))) false (x.snd.rings.get i3).nil) (TRr.mk (TRc.mk (cond (Nat.beq i3 ((0 : Nat) + (Int.toNat x.fst.Ring))) y2.snd.snd.AA.tail (x.snd.rings.get i3).x.AA.tail) (Sl.mk (cond (Nat.beq i3 ((0 : Nat) + (Int.toNat x.fst.Ring))) y2.snd.snd.AA.AB.nil (x.snd.rings.get i3).x.AA.AB.nil) (cond (Nat.beq i3 ((0 : Nat) + (Int.toNat x.fst.Ring))) y2.snd.snd.AA.AB.n (x.snd.rings.get i3).x.AA.AB.n) (fun i4 => (cond (Nat.beq i3 ((0 : Nat) + (Int.toNat x.fst.Ring))) (y2.snd.snd.AA.AB.get i4) ((x.snd.rings.get i3).x.AA.AB.get i4))))) (Bx.mk (cond (Nat.beq i3 ((0 : Nat) + (Int.toNat x.fst.Ring))) y2.snd.snd.s.nil (x.snd.rings.get i3).x.s.nil) (TSs.mk (Sl.mk (cond (Nat.beq i3 ((0 : Nat) + (Int.toNat x.fst.Ring))) y2.snd.snd.s.x.l.nil (x.snd.rings.get i3).x.s.x.l.nil) (cond (Nat.beq i3 ((0 : Nat) + (Int.toNat x.fst.Ring))) y2.snd.snd.s.x.l.n (x.snd.rings.get i3).x.s.x.l.n) (fun i4 => (TSo.mk (cond (Nat.beq i3 ((0 : Nat) + (Int.toNat x.fst.Ring))) (y2.snd.snd.s.x.l.get i4).AQ ((x.snd.rings.get i3).x.s.x.l.get i4).AQ) (cond (Nat.beq i3 ((0 : Nat) + (Int.toNat x.fst.Ring))) (y2.snd.snd.s.x.l.get i4).Value ((x.snd.rings.get i3).x.s.x.l.get i4).Value) (cond (Nat.beq i3 ((0 : Nat) + (Int.toNat x.fst.Ring))) (y2.snd.snd.s.x.l.get i4).Left ((x.snd.rings.get i3).x.s.x.l.get i4).Left)))) (cond (Nat.beq i3 ((0 : Nat) + (Int.toNat x.fst.Ring))) y2.snd.snd.s.x.AP (x.snd.rings.get i3).x.s.x.AP))) (cond (Nat.beq i3 ((0 : Nat) + (Int.toNat x.fst.Ring))) y2.snd.snd.most (x.snd.rings.get i3).x.most) (cond (Nat.beq i3 ((0 : Nat) + (Int.toNat x.fst.Ring))) y2.snd.snd.closed (x.snd.rings.get i3).x.closed))))) x.snd.now x.snd.reads x.snd.ended)))))))))
 (.ite (Ad x.fst.Kind 4)
 (.need (BA x.fst.Ring x.snd.rings.n) <|
 (.need (((Nat.beq x.snd.rings.n x.snd.rings.n) && true) && (!(x.snd.rings.get ((0 : Nat) + (Int.toNat x.fst.Ring))).nil)) <|
 (.call con_f22 (y1.Reader, (x.fst.AJ, (x.snd.rings.get ((0 : Nat) + (Int.toNat x.fst.Ring))).x)) fun (y2 : R_f22) =>
 (.need ((true && true) && ((Nat.beq x.snd.rings.n x.snd.rings.n) && (Nat.blt ((0 : Nat) + (Int.toNat x.fst.Ring)) x.snd.rings.n))) <|
 (.side ((fun v : Nat → V => v = v) (fun i3 => (cond (Nat.beq i3 ((0 : Nat) + (Int.toNat x.fst.Ring))) (V.ptr (Id.loc 56 0) List.nil) (V.Aa (x.snd.rings.get i3).nil (V.cons (V.cons (V.int IntKind.u64 (x.snd.rings.get i3).x.AA.tail) (V.cons (V.Aq 36 1 (x.snd.rings.get i3).x.AA.AB.nil (x.snd.rings.get i3).x.AA.AB.n (fun i4 => (V.int IntKind.u64 ((x.snd.rings.get i3).x.AA.AB.get i4)))) V.unit)) (V.cons (V.Aa (x.snd.rings.get i3).x.s.nil (V.cons (V.Aq 115 3 (x.snd.rings.get i3).x.s.x.l.nil (x.snd.rings.get i3).x.s.x.l.n (fun i4 => (V.cons (V.int IntKind.u64 ((x.snd.rings.get i3).x.s.x.l.get i4).AQ) (V.cons (V.int IntKind.u64 ((x.snd.rings.get i3).x.s.x.l.get i4).Value) (V.cons (V.int IntKind.i64 ((x.snd.rings.get i3).x.s.x.l.get i4).Left) V.unit))))) (V.cons (V.int IntKind.i64 (x.snd.rings.get i3).x.s.x.AP) V.unit))) (V.cons (V.int IntKind.u64 (x.snd.rings.get i3).x.most) (V.cons (V.bool (x.snd.rings.get i3).x.closed) V.unit)))))))) <|
 (.need ((true && true) && (Nat.beq x.snd.rings.n x.snd.rings.n)) <|
 (.Ac S_fd_20 D_fd_20 (X_fd_20.mk x.fst y2.fst (TFa.mk x.snd.p x.snd.threads (Sl.mk x.snd.rings.nil x.snd.rings.n (fun i3 => (Bx.mk (cond (Nat.beq i3 ((0 : Nat) + (Int.toNat x.fst.Ring))) false (x.snd.rings.get i3).nil) (TRr.mk (TRc.mk (cond (Nat.beq i3 ((0 : Nat) + (Int.toNat x.fst.Ring))) y2.snd.snd.AA.tail (x.snd.rings.get i3).x.AA.tail) (Sl.mk (cond (Nat.beq i3 ((0 : Nat) + (Int.toNat x.fst.Ring))) y2.snd.snd.AA.AB.nil (x.snd.rings.get i3).x.AA.AB.nil) (cond (Nat.beq i3 ((0 : Nat) + (Int.toNat x.fst.Ring))) y2.snd.snd.AA.AB.n (x.snd.rings.get i3).x.AA.AB.n) (fun i4 => (cond (Nat.beq i3 ((0 : Nat) + (Int.toNat x.fst.Ring))) (y2.snd.snd.AA.AB.get i4) ((x.snd.rings.get i3).x.AA.AB.get i4))))) (Bx.mk (cond (Nat.beq i3 ((0 : Nat) + (Int.toNat x.fst.Ring))) y2.snd.snd.s.nil (x.snd.rings.get i3).x.s.nil) (TSs.mk (Sl.mk (cond (Nat.beq i3 ((0 : Nat) + (Int.toNat x.fst.Ring))) y2.snd.snd.s.x.l.nil (x.snd.rings.get i3).x.s.x.l.nil) (cond (Nat.beq i3 ((0 : Nat) + (Int.toNat x.fst.Ring))) y2.snd.snd.s.x.l.n (x.snd.rings.get i3).x.s.x.l.n) (fun i4 => (TSo.mk (cond (Nat.beq i3 ((0 : Nat) + (Int.toNat x.fst.Ring))) (y2.snd.snd.s.x.l.get i4).AQ ((x.snd.rings.get i3).x.s.x.l.get i4).AQ) (cond (Nat.beq i3 ((0 : Nat) + (Int.toNat x.fst.Ring))) (y2.snd.snd.s.x.l.get i4).Value ((x.snd.rings.get i3).x.s.x.l.get i4).Value) (cond (Nat.beq i3 ((0 : Nat) + (Int.toNat x.fst.Ring))) (y2.snd.snd.s.x.l.get i4).Left ((x.snd.rings.get i3).x.s.x.l.get i4).Left)))) (cond (Nat.beq i3 ((0 : Nat) + (Int.toNat x.fst.Ring))) y2.snd.snd.s.x.AP (x.snd.rings.get i3).x.s.x.AP))) (cond (Nat.beq i3 ((0 : Nat) + (Int.toNat x.fst.Ring))) y2.snd.snd.most (x.snd.rings.get i3).x.most) (cond (Nat.beq i3 ((0 : Nat) + (Int.toNat x.fst.Ring))) y2.snd.snd.closed (x.snd.rings.get i3).x.closed))))) x.snd.now x.snd.reads x.snd.ended)))))))))
 (.ite (Ad x.fst.Kind 13)
 (.need (BA x.fst.Ring x.snd.rings.n) <|
 (.need (((Nat.beq x.snd.rings.n x.snd.rings.n) && true) && (!(x.snd.rings.get ((0 : Nat) + (Int.toNat x.fst.Ring))).nil)) <|
 (.call con_f2b (x.snd.rings.get ((0 : Nat) + (Int.toNat x.fst.Ring))).x fun (y2 : R_f2b) =>
 (.need ((true && true) && ((Nat.beq x.snd.rings.n x.snd.rings.n) && (Nat.blt ((0 : Nat) + (Int.toNat x.fst.Ring)) x.snd.rings.n))) <|
 (.side ((fun v : Nat → V => v = v) (fun i3 => (cond (Nat.beq i3 ((0 : Nat) + (Int.toNat x.fst.Ring))) (V.ptr (Id.loc 73 0) List.nil) (V.Aa (x.snd.rings.get i3).nil (V.cons (V.cons (V.int IntKind.u64 (x.snd.rings.get i3).x.AA.tail) (V.cons (V.Aq 36 1 (x.snd.rings.get i3).x.AA.AB.nil (x.snd.rings.get i3).x.AA.AB.n (fun i4 => (V.int IntKind.u64 ((x.snd.rings.get i3).x.AA.AB.get i4)))) V.unit)) (V.cons (V.Aa (x.snd.rings.get i3).x.s.nil (V.cons (V.Aq 115 3 (x.snd.rings.get i3).x.s.x.l.nil (x.snd.rings.get i3).x.s.x.l.n (fun i4 => (V.cons (V.int IntKind.u64 ((x.snd.rings.get i3).x.s.x.l.get i4).AQ) (V.cons (V.int IntKind.u64 ((x.snd.rings.get i3).x.s.x.l.get i4).Value) (V.cons (V.int IntKind.i64 ((x.snd.rings.get i3).x.s.x.l.get i4).Left) V.unit))))) (V.cons (V.int IntKind.i64 (x.snd.rings.get i3).x.s.x.AP) V.unit))) (V.cons (V.int IntKind.u64 (x.snd.rings.get i3).x.most) (V.cons (V.bool (x.snd.rings.get i3).x.closed) V.unit)))))))) <|
 (.need ((true && true) && (Nat.beq x.snd.rings.n x.snd.rings.n)) <|
 (.Ac S_fd_20 D_fd_20 (X_fd_20.mk x.fst 0 (TFa.mk x.snd.p x.snd.threads (Sl.mk x.snd.rings.nil x.snd.rings.n (fun i3 => (Bx.mk (cond (Nat.beq i3 ((0 : Nat) + (Int.toNat x.fst.Ring))) false (x.snd.rings.get i3).nil) (TRr.mk (TRc.mk (cond (Nat.beq i3 ((0 : Nat) + (Int.toNat x.fst.Ring))) y2.snd.AA.tail (x.snd.rings.get i3).x.AA.tail) (Sl.mk (cond (Nat.beq i3 ((0 : Nat) + (Int.toNat x.fst.Ring))) y2.snd.AA.AB.nil (x.snd.rings.get i3).x.AA.AB.nil) (cond (Nat.beq i3 ((0 : Nat) + (Int.toNat x.fst.Ring))) y2.snd.AA.AB.n (x.snd.rings.get i3).x.AA.AB.n) (fun i4 => (cond (Nat.beq i3 ((0 : Nat) + (Int.toNat x.fst.Ring))) (y2.snd.AA.AB.get i4) ((x.snd.rings.get i3).x.AA.AB.get i4))))) (Bx.mk (cond (Nat.beq i3 ((0 : Nat) + (Int.toNat x.fst.Ring))) y2.snd.s.nil (x.snd.rings.get i3).x.s.nil) (TSs.mk (Sl.mk (cond (Nat.beq i3 ((0 : Nat) + (Int.toNat x.fst.Ring))) y2.snd.s.x.l.nil (x.snd.rings.get i3).x.s.x.l.nil) (cond (Nat.beq i3 ((0 : Nat) + (Int.toNat x.fst.Ring))) y2.snd.s.x.l.n (x.snd.rings.get i3).x.s.x.l.n) (fun i4 => (TSo.mk (cond (Nat.beq i3 ((0 : Nat) + (Int.toNat x.fst.Ring))) (y2.snd.s.x.l.get i4).AQ ((x.snd.rings.get i3).x.s.x.l.get i4).AQ) (cond (Nat.beq i3 ((0 : Nat) + (Int.toNat x.fst.Ring))) (y2.snd.s.x.l.get i4).Value ((x.snd.rings.get i3).x.s.x.l.get i4).Value) (cond (Nat.beq i3 ((0 : Nat) + (Int.toNat x.fst.Ring))) (y2.snd.s.x.l.get i4).Left ((x.snd.rings.get i3).x.s.x.l.get i4).Left)))) (cond (Nat.beq i3 ((0 : Nat) + (Int.toNat x.fst.Ring))) y2.snd.s.x.AP (x.snd.rings.get i3).x.s.x.AP))) (cond (Nat.beq i3 ((0 : Nat) + (Int.toNat x.fst.Ring))) y2.snd.most (x.snd.rings.get i3).x.most) (cond (Nat.beq i3 ((0 : Nat) + (Int.toNat x.fst.Ring))) y2.snd.closed (x.snd.rings.get i3).x.closed))))) x.snd.now x.snd.reads x.snd.ended)))))))))
 (.ite (Ad x.fst.Kind 8)
 (.Ac S_fd_20 D_fd_20 (X_fd_20.mk x.fst 0 (TFa.mk x.snd.p x.snd.threads x.snd.rings (imax x.snd.now x.fst.Value) x.snd.reads x.snd.ended)))
 (.ite (Ad x.fst.Kind 10)
 (.Ac S_fd_20 D_fd_20 (X_fd_20.mk x.fst 0 (TFa.mk x.snd.p x.snd.threads x.snd.rings x.snd.now (IntKind.u64.wrap (x.snd.reads + 1)) x.snd.ended)))
 (.ite (Ad x.fst.Kind 11)
 (.Ac S_fd_20 D_fd_20 (X_fd_20.mk x.fst 0 (TFa.mk x.snd.p x.snd.threads x.snd.rings x.snd.now x.snd.reads true)))
 (.Ac S_fd_20 D_fd_20 (X_fd_20.mk x.fst 0 x.snd)))))))))))
theorem sd_fd (x : X_fd) : (tt_fd x).AH :=
 (TT.sC fun _ => (TT.sI (TT.sC fun _ => TT.sJ) (TT.sI (TT.sN (TT.sN (TT.sC fun _ => (TT.sN (TT.sS rfl (TT.sN TT.sJ)))))) (TT.sI (TT.sN (TT.sN (TT.sC fun _ => (TT.sN (TT.sS rfl (TT.sN TT.sJ)))))) (TT.sI (TT.sN (TT.sN (TT.sC fun _ => (TT.sN (TT.sS rfl (TT.sN TT.sJ)))))) (TT.sI (TT.sN (TT.sN (TT.sC fun _ => (TT.sN (TT.sS rfl (TT.sN TT.sJ)))))) (TT.sI TT.sJ (TT.sI TT.sJ (TT.sI TT.sJ TT.sJ)))))))))
def D_fd : AV X_fd R_fd := .of tt_fd
def con_fd : BC Tryz.prog :=
 CH 25 J_fd S_fd D_fd 2 1 [.any, .any] (lk mxk (lbc ok_fd_20 rfl lbn) sd_fd)
abbrev X_f1l : Type := TEv × TFa
abbrev R_f1l : Type := Int × TFa
def J_f1l : BH Tryz.prog :=
 BR Tryz.prog Tryz.f7 19 [(3, 3)] [] [] [] [.any] [sh_TFa] [con_fc, con_fd, con_fs] R_f1l [] fun y => [(V.int .i64) y.1, e_TFa y.2]
def S_f1l : AR :=
 Aj Tryz.f7 2 1 X_f1l (fun x => [(V.ptr (.par 0) []), e_TEv x.1, e_TFa x.2]) fun l => (d_TEv (at_ l 1), d_TFa (at_ l 2))
def tt_f1l (x : X_f1l) : TT Tryz.prog R_f1l :=
 (.call con_fs (x.fst, x.snd) fun (y1 : R_fs) =>
 (.ite (!(Ad y1 0))
 (.ret (y1, x.snd))
 (.call con_fc (x.fst, x.snd) fun (y2 : R_fc) =>
 (.ite (!y2)
 (.ret (11, x.snd))
 (.call con_fd (x.fst, x.snd) fun (y3 : R_fd) =>
 (.ret (0, y3)))))))
theorem sd_f1l (x : X_f1l) : (tt_f1l x).AH :=
 (TT.sC fun _ => (TT.sI TT.sR (TT.sC fun _ => (TT.sI TT.sR (TT.sC fun _ => TT.sR)))))
def D_f1l : AV X_f1l R_f1l := .of tt_f1l
def con_f1l : BC Tryz.prog :=
 CH 7 J_f1l S_f1l D_f1l 2 1 [.any, .any] (lk mxk lbn sd_f1l)
abbrev Dsl_TRs : Type := (Sl TRs)
def esl_TRs : Dsl_TRs → V := (MY none 4 e_TRs)
def dsl_TRs : V → Dsl_TRs := (LW d_TRs)
def hsl_TRs : Sh := (.sl none 4 (e_TRs (d_TRs .undef)))
structure TSt where
 AD : (Sl TTh)
 AK : (Sl TRs)
 Mj : Int
 Reads : Int
 FE : Bool
def d_TSt (v : V) : TSt :=
 ⟨dsl_TTh (fd v 0), dsl_TRs (fd v 1), dI (fd v 2), dI (fd v 3), dB (fd v 4)⟩
def e_TSt (x : TSt) : V :=
 V.cons (esl_TTh x.AD) (V.cons (esl_TRs x.AK) (V.cons ((V.int .u64) x.Mj) (V.cons ((V.int .u64) x.Reads) (V.cons (V.bool x.FE) (V.unit)))))
theorem nu_e_TSt (x : TSt) : (e_TSt x).CB := ⟨trivial, trivial, trivial, trivial, trivial, trivial⟩
def sh_TSt : Sh := (.cons hsl_TTh (.cons hsl_TRs .any))
abbrev X_ff : Type := (Ar TTh)
abbrev R_ff : Type := (Sl TTh)
abbrev RR_ff : Type := (Sl TTh) × (Ar TTh)
abbrev p_ff (y : RR_ff) : (Ar TTh) := y.2
abbrev w_ff (x : X_ff) : (Ar TTh) := x
def J_ff : BH Tryz.prog :=
 BR Tryz.prog Tryz.f33 8 [(5, 1), (6, 1)] [] [] [.D8 2] [hosl_TTh] [.any] [] RR_ff [] fun y => [eosl_TTh y.1, (Hm 14 e_TTh) y.2]
def S_ff : AR :=
 Aj Tryz.f33 1 1 X_ff (fun x => [(V.own (.par 0) [] 14 x.n 0 x.n), (Hm 14 e_TTh) x]) fun l => ((Mq d_TTh) (at_ l 1))
def tt_ff (x : X_ff) : TT Tryz.prog RR_ff :=
 (.need (Nat.blt 0 x.n) <|
 (.need ((true && (Nat.beq x.n x.n)) && (room ((0 : Nat) + x.n) 128)) <|
 (.side (∀ i1 : Nat, ((i1 < x.n) → ((true && (true && (true && (true && (true && ((true && (true && (true && (true && (true && (true && (true && (true && true)))))))) && (true && true))))))) = true))) <|
 (.ret ((Sl.mk (cond (Nat.beq x.n 0) false false) ((0 : Nat) + x.n) (fun i1 => (TTh.mk (cond (Nat.blt i1 0) (0 : Int) (x.get ((0 : Nat) + (i1 - 0))).At) (cond (Nat.blt i1 0) (0 : Int) (x.get ((0 : Nat) + (i1 - 0))).Phase) (cond (Nat.blt i1 0) (0 : Int) (x.get ((0 : Nat) + (i1 - 0))).Ring) (cond (Nat.blt i1 0) (0 : Int) (x.get ((0 : Nat) + (i1 - 0))).Status) (cond (Nat.blt i1 0) (0 : Int) (x.get ((0 : Nat) + (i1 - 0))).AJ) (fun i2 => (cond (Nat.blt i1 0) (0 : Int) ((x.get ((0 : Nat) + (i1 - 0))).Ao i2))) (Sl.mk (cond (Nat.blt i1 0) true (x.get ((0 : Nat) + (i1 - 0))).Seen.nil) (cond (Nat.blt i1 0) (0 : Nat) (x.get ((0 : Nat) + (i1 - 0))).Seen.n) (fun i2 => (cond (Nat.blt i1 0) (0 : Int) ((x.get ((0 : Nat) + (i1 - 0))).Seen.get i2))))))), x)))))
theorem sd_ff (x : X_ff) : (tt_ff x).AH :=
 (TT.sN (TT.sN (TT.sS (fun _ _ => rfl) TT.sR)))
theorem roT_ff (x : X_ff) : TT.Ro p_ff (w_ff x) (tt_ff x) :=
 (TT.rN (TT.rN (TT.rS (TT.rR rfl))))
def D_ff : AV X_ff R_ff := .ro (.of tt_ff) (fun y => (y.1)) (fun y x => (y, x)) fun x y h => congrArg (fun o => (y.1, o)) (roT_ff x y h)
def con_ff : BC Tryz.prog :=
 Cb 33 J_ff S_ff (.of tt_ff) D_ff (fun y x => (y, x)) (fun y => eosl_TTh y) 1 1 [.any] (lk mxk lbn sd_ff) (fun x => ⟨(fun _ _ => (nu_e_TTh) _ : ∀ y, ((Hm 14 e_TTh) y).CB) (x), trivial⟩)
abbrev X_f1a : Type := (Sl Int)
abbrev R_f1a : Type := (Sl Int)
def J_f1a : BH Tryz.prog :=
 BR Tryz.prog Tryz.f27 8 [(6, 1)] [] [] [.D8 2] [C5] [] [] R_f1a [] fun y => [CW y]
def S_f1a : AR :=
 Aj Tryz.f27 1 0 X_f1a (fun x => [CW x]) fun l => (ED (at_ l 0))
def tt_f1a (x : X_f1a) : TT Tryz.prog R_f1a :=
 (.ite x.nil
 (.ret (Sl.mk true 0 (fun _i1 => (0 : Int))))
 (.need (true && (room ((0 : Nat) + x.n) 8)) <|
 (.ret (Sl.mk (cond (Nat.beq x.n 0) false false) ((0 : Nat) + x.n) (fun i1 => (cond (Nat.blt i1 0) (0 : Int) (x.get (i1 - 0))))))))
theorem sd_f1a (x : X_f1a) : (tt_f1a x).AH :=
 (TT.sI TT.sR (TT.sN TT.sR))
def D_f1a : AV X_f1a R_f1a := .of tt_f1a
def con_f1a : BC Tryz.prog :=
 CH 27 J_f1a S_f1a D_f1a 1 0 [C5] (lk mxk lbn sd_f1a)
abbrev DslA_TRs : Type := (Sl TRs)
def eslA_TRs : DslA_TRs → V := (MY (some 61) 4 e_TRs)
def dslA_TRs : V → DslA_TRs := (LW d_TRs)
def hslA_TRs : Sh := (.sl (some 61) 4 (e_TRs (d_TRs .undef)))
def e_TSt_o0_1 (x : TSt) : V :=
 V.cons (eosl_TTh x.AD) (V.cons (eslA_TRs x.AK) (V.cons ((V.int .u64) x.Mj) (V.cons ((V.int .u64) x.Reads) (V.cons (V.bool x.FE) (V.unit)))))
theorem nu_e_TSt_o0_1 (x : TSt) : (e_TSt_o0_1 x).CB := ⟨(fun _ _ => (nu_e_TTh) _ : ∀ y, (eosl_TTh y).CB) x.AD, trivial, trivial, trivial, trivial, trivial⟩
def sh_TSt_o0_1 : Sh := (.cons hosl_TTh (.cons hslA_TRs .any))
def e_TSt_1 (x : TSt) : V :=
 V.cons (esl_TTh x.AD) (V.cons (eslA_TRs x.AK) (V.cons ((V.int .u64) x.Mj) (V.cons ((V.int .u64) x.Reads) (V.cons (V.bool x.FE) (V.unit)))))
theorem nu_e_TSt_1 (x : TSt) : (e_TSt_1 x).CB := ⟨trivial, trivial, trivial, trivial, trivial, trivial⟩
def sh_TSt_1 : Sh := (.cons hsl_TTh (.cons hslA_TRs .any))
end Go.Proofs.YtlhifcnjnmeknaaGreat
end
