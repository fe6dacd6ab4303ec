/- What functions of the program come to, part A: no statement is proved here. -/
import Derived.Test.YtlhifcnjnmeknaaGreatM
import Derived.Test.YtlhifcnjnmeknaaGreatProg
import Derived.KernelRfl
noncomputable section
namespace Go.Proofs.YtlhifcnjnmeknaaGreat
open Go Go.Vm Go.Proofs
set_option maxRecDepth 100000
theorem mxk : Tryz.prog.follows .mixedOrders = true := by kernel_rfl
def d_TRg (v : V) : TRg :=
 ⟨dI (fd v 0), dI (fd v 1), dI (fd v 2)⟩
def e_TRg (x : TRg) : V :=
 V.cons ((V.int .i64) x.Kind) (V.cons ((V.int .i64) x.Dn) (V.cons ((V.int .i64) x.AX) (V.unit)))
theorem nu_e_TRg (x : TRg) : (e_TRg x).CB := ⟨trivial, trivial, trivial, trivial⟩
abbrev Dsl_TRg : Type := (Sl TRg)
def esl_TRg : Dsl_TRg → V := (MY none 3 e_TRg)
def dsl_TRg : V → Dsl_TRg := (LW d_TRg)
def hsl_TRg : Sh := (.sl none 3 (e_TRg (d_TRg .undef)))
def d_TIn (v : V) : TIn :=
 ⟨dI (fd v 0), dI (fd v 1), dI (fd v 2), dI (fd v 3), dI (fd v 4), dI (fd v 5)⟩
def e_TIn (x : TIn) : V :=
 V.cons ((V.int .i64) x.Op) (V.cons ((V.int .i64) x.A) (V.cons ((V.int .i64) x.B) (V.cons ((V.int .i64) x.C) (V.cons ((V.int .i64) x.D) (V.cons ((V.int .u64) x.K) (V.unit))))))
theorem nu_e_TIn (x : TIn) : (e_TIn x).CB := ⟨trivial, trivial, trivial, trivial, trivial, trivial, trivial⟩
abbrev Dsl_TIn : Type := (Sl TIn)
def esl_TIn : Dsl_TIn → V := (MY none 6 e_TIn)
def dsl_TIn : V → Dsl_TIn := (LW d_TIn)
def hsl_TIn : Sh := (.sl none 6 (e_TIn (d_TIn .undef)))
abbrev Dsl_sl_TIn : Type := (Sl (Sl TIn))
def esl_sl_TIn : Dsl_sl_TIn → V := (MY none 1 esl_TIn)
def dsl_sl_TIn : V → Dsl_sl_TIn := (LW dsl_TIn)
def hsl_sl_TIn : Sh := (.sl none 1 (esl_TIn (dsl_TIn .undef)))
structure TPg where
 AK : (Sl TRg)
 AD : (Sl (Sl TIn))
def d_TPg (v : V) : TPg :=
 ⟨dsl_TRg (fd v 0), dsl_sl_TIn (fd v 1)⟩
def e_TPg (x : TPg) : V :=
 V.cons (esl_TRg x.AK) (V.cons (esl_sl_TIn x.AD) (V.unit))
theorem nu_e_TPg (x : TPg) : (e_TPg x).CB := ⟨trivial, trivial, trivial⟩
def sh_TPg : Sh := (.cons hsl_TRg (.cons hsl_sl_TIn .any))
abbrev X_f2v : Type := Unit
abbrev R_f2v : Type := TPg
def J_f2v : BH Tryz.prog :=
 BR Tryz.prog Tryz.f11 9 [] [] [] [] [sh_TPg] [] [] R_f2v [] fun y => [e_TPg y]
def S_f2v : AR :=
 Aj Tryz.f11 0 0 X_f2v (fun _x => []) fun _l => ()
def tt_f2v (_x : X_f2v) : TT Tryz.prog R_f2v :=
 (.ret (TPg.mk (Sl.mk false 1 (fun _i1 => (TRg.mk 1 1 1))) (Sl.mk false 1 (fun _i1 => (Sl.mk false 3 (fun i2 => (TIn.mk (cond (Nat.beq i2 0) (1 : Int) (cond (Nat.beq i2 1) (18 : Int) (15 : Int))) (cond (Nat.beq i2 0) (1 : Int) (cond (Nat.beq i2 1) (1 : Int) (0 : Int))) (cond (Nat.beq i2 0) (0 : Int) (cond (Nat.beq i2 1) (2 : Int) (0 : Int))) (cond (Nat.beq i2 0) (0 : Int) (cond (Nat.beq i2 1) (0 : Int) (0 : Int))) (cond (Nat.beq i2 0) (0 : Int) (cond (Nat.beq i2 1) (0 : Int) (0 : Int))) (cond (Nat.beq i2 0) (5 : Int) (cond (Nat.beq i2 1) (0 : Int) (1 : Int))))))))))
theorem sd_f2v (x : X_f2v) : (tt_f2v x).AH :=
 TT.sR
def D_f2v : AV X_f2v R_f2v := .of tt_f2v
def con_f2v : BC Tryz.prog :=
 CH 11 J_f2v S_f2v D_f2v 0 0 [] (lk mxk lbn sd_f2v)
abbrev X_f1r : Type := TRg
abbrev R_f1r : Type := Bool
def J_f1r : BH Tryz.prog :=
 BR Tryz.prog Tryz.f66 34 [(1, 3)] [] [] [] [.any] [] [] R_f1r [] fun y => [V.bool y]
def S_f1r : AR :=
 Aj Tryz.f66 1 0 X_f1r (fun x => [e_TRg x]) fun l => (d_TRg (at_ l 0))
structure X_f1r_3 where
 LU : TRg
def S_f1r_3 : AR :=
 Ak Tryz.f66 3 [(1, .any)] [] [] X_f1r_3 (fun x => [(DQ e_TRg) x.LU]) fun l => ⟨(DR d_TRg) (at_ l 0)⟩
def tt_f1r_3 (x : X_f1r_3) : TT Tryz.prog R_f1r :=
 (.ite (Ad x.LU.Kind 1)
 (.ite (Ad x.LU.AX 1)
 (.ret true)
 (.ite (Ad x.LU.Kind 2)
 (.ite (Bh 1 x.LU.AX)
 (.ret (Bh x.LU.AX 8))
 (.ret false))
 (.ret false)))
 (.ite (Ad x.LU.Kind 2)
 (.ite (Bh 1 x.LU.AX)
 (.ret (Bh x.LU.AX 8))
 (.ret false))
 (.ret false)))
theorem sd_f1r_3 (x : X_f1r_3) : (tt_f1r_3 x).AH :=
 (TT.sI (TT.sI TT.sR (TT.sI (TT.sI TT.sR TT.sR) TT.sR)) (TT.sI (TT.sI TT.sR TT.sR) TT.sR))
def D_f1r_3 : AV X_f1r_3 R_f1r := .of tt_f1r_3
theorem ok_f1r_3 : AZ J_f1r S_f1r_3 D_f1r_3 :=
 lk mxk lbn sd_f1r_3
def tt_f1r (x : X_f1r) : TT Tryz.prog R_f1r :=
 (.ite (Bu x.Dn 1)
 (.ret false)
 (.ite (Bu 64 x.Dn)
 (.ret false)
 (.Ac S_f1r_3 D_f1r_3 (X_f1r_3.mk x))))
theorem sd_f1r (x : X_f1r) : (tt_f1r x).AH :=
 (TT.sI TT.sR (TT.sI TT.sR TT.sJ))
def D_f1r : AV X_f1r R_f1r := .of tt_f1r
def con_f1r : BC Tryz.prog :=
 CH 66 J_f1r S_f1r D_f1r 1 0 [.any] (lk mxk (lbc ok_f1r_3 rfl lbn) sd_f1r)
abbrev X_f2l : Type := Int
abbrev R_f2l : Type := Bool
def J_f2l : BH Tryz.prog :=
 BR Tryz.prog Tryz.f102 9 [] [] [] [] [.any] [] [] R_f2l [] fun y => [V.bool y]
def S_f2l : AR :=
 Aj Tryz.f102 1 0 X_f2l (fun x => [(V.int .i64) x]) fun l => (dI (at_ l 0))
def tt_f2l (x : X_f2l) : TT Tryz.prog R_f2l :=
 (.ite (Bh 1 x)
 (.ret (Bh x 17))
 (.ret false))
theorem sd_f2l (x : X_f2l) : (tt_f2l x).AH :=
 (TT.sI TT.sR TT.sR)
def D_f2l : AV X_f2l R_f2l := .of tt_f2l
def con_f2l : BC Tryz.prog :=
 CH 102 J_f2l S_f2l D_f2l 1 0 [.any] (lk mxk lbn sd_f2l)
structure TCl where
 a : Int
 b : Int
 c : Int
 d : Int
 k : Int
def d_TCl (v : V) : TCl :=
 ⟨dI (fd v 0), dI (fd v 1), dI (fd v 2), dI (fd v 3), dI (fd v 4)⟩
def e_TCl (x : TCl) : V :=
 V.cons ((V.int .i64) x.a) (V.cons ((V.int .i64) x.b) (V.cons ((V.int .i64) x.c) (V.cons ((V.int .i64) x.d) (V.cons ((V.int .u64) x.k) (V.unit)))))
theorem nu_e_TCl (x : TCl) : (e_TCl x).CB := ⟨trivial, trivial, trivial, trivial, trivial, trivial⟩
abbrev X_f1q : Type := Int
abbrev R_f1q : Type := TCl × Bool
def J_f1q : BH Tryz.prog :=
 BR Tryz.prog Tryz.f106 39 [] [] [] [] [.any, .any] [] [con_f2l] R_f1q [] fun y => [V.CG (V.cons (e_TCl y.1) (V.cons (V.bool y.2) (V.unit)))]
def S_f1q : AR :=
 Aj Tryz.f106 1 0 X_f1q (fun x => [(V.int .i64) x]) fun l => (dI (at_ l 0))
structure X_f1q_24 where
 Sz : Int
 CM : TCl
def S_f1q_24 : AR :=
 Ak Tryz.f106 24 (an [0, 2]) [] [(.loc 2 0, .any)] X_f1q_24 (fun x => [(V.int .i64) x.Sz, (V.ptr (.loc 2 0) []), e_TCl x.CM]) fun l => ⟨dI (at_ l 0), d_TCl (at_ l 2)⟩
def tt_f1q_24 (x : X_f1q_24) : TT Tryz.prog R_f1q :=
 (.call con_f2l x.Sz fun (y1 : R_f2l) =>
 (.ret ((TCl.mk 7 7 7 0 0), y1)))
theorem sd_f1q_24 (x : X_f1q_24) : (tt_f1q_24 x).AH :=
 (TT.sC fun _ => TT.sR)
def D_f1q_24 : AV X_f1q_24 R_f1q := .of tt_f1q_24
theorem ok_f1q_24 : AZ J_f1q S_f1q_24 D_f1q_24 :=
 lk mxk lbn sd_f1q_24
def tt_f1q (x : X_f1q) : TT Tryz.prog R_f1q :=
 (.ite (Ad x 1)
 (.ret ((TCl.mk 7 0 0 0 18446744073709551615), true))
 (.ite (Ad x 2)
 (.ret ((TCl.mk 7 7 0 0 0), true))
 (.ite (Ad x 23)
 (.ret ((TCl.mk 7 7 0 0 0), true))
 (.ite (Ad x 15)
 (.ret ((TCl.mk 0 0 0 0 256), true))
 (.ite (Ad x 16)
 (.ret ((TCl.mk 7 0 0 0 256), true))
 (.ite (Ad x 17)
 (.ret ((TCl.mk 7 0 0 0 256), true))
 (.ite (Ad x 18)
 (.ret ((TCl.mk 7 7 7 2 0), true))
 (.ite (Ad x 19)
 (.ret ((TCl.mk 7 7 7 2 7), true))
 (.ite (Ad x 20)
 (.ret ((TCl.mk 0 0 7 0 0), true))
 (.ite (Ad x 21)
 (.ret ((TCl.mk 7 0 0 0 0), true))
 (.ite (Ad x 22)
 (.ret ((TCl.mk 7 0 0 0 0), true))
 (.ite (Ad x 24)
 (.ret ((TCl.mk 7 0 0 0 0), true))
 (.ite (Ad x 25)
 (.ret ((TCl.mk 0 0 0 0 0), true))
 (.Ac S_f1q_24 D_f1q_24 (X_f1q_24.mk x (TCl.mk 0 0 0 0 0))))))))))))))))
theorem sd_f1q (x : X_f1q) : (tt_f1q x).AH :=
 (TT.sI TT.sR (TT.sI TT.sR (TT.sI TT.sR (TT.sI TT.sR (TT.sI TT.sR (TT.sI TT.sR (TT.sI TT.sR (TT.sI TT.sR (TT.sI TT.sR (TT.sI TT.sR (TT.sI TT.sR (TT.sI TT.sR (TT.sI TT.sR TT.sJ)))))))))))))
def D_f1q : AV X_f1q R_f1q := .of tt_f1q
def con_f1q : BC Tryz.prog :=
 CH 106 J_f1q S_f1q D_f1q 1 0 [.any] (lk mxk (lbc ok_f1q_24 rfl lbn) sd_f1q)
abbrev X_f2m : Type := TIn
abbrev R_f2m : Type := Bool
def J_f2m : BH Tryz.prog :=
 BR Tryz.prog Tryz.f86 67 [(1, 3), (5, 1)] [] [] [] [.any] [] [con_f1q] R_f2m [] fun y => [V.bool y]
def S_f2m : AR :=
 Aj Tryz.f86 1 0 X_f2m (fun x => [e_TIn x]) fun l => (d_TIn (at_ l 0))
def tt_f2m (x : X_f2m) : TT Tryz.prog R_f2m :=
 (.call con_f1q x.Op fun (y1 : R_f1q) =>
 (.ite y1.snd
 (.ite (Bh 0 x.A)
 (.ite (Bh x.A y1.fst.a)
 (.ite (Bh 0 x.B)
 (.ite (Bh x.B y1.fst.b)
 (.ite (Bh 0 x.C)
 (.ite (Bh x.C y1.fst.c)
 (.ite (Bh 0 x.D)
 (.ite (Bh x.D y1.fst.d)
 (.ret (Bh x.K y1.fst.k))
 (.ret false))
 (.ret false))
 (.ret false))
 (.ret false))
 (.ret false))
 (.ret false))
 (.ret false))
 (.ret false))
 (.ret false)))
theorem sd_f2m (x : X_f2m) : (tt_f2m x).AH :=
 (TT.sC fun _ => (TT.sI (TT.sI (TT.sI (TT.sI (TT.sI (TT.sI (TT.sI (TT.sI (TT.sI TT.sR TT.sR) TT.sR) TT.sR) TT.sR) TT.sR) TT.sR) TT.sR) TT.sR) TT.sR))
def D_f2m : AV X_f2m R_f2m := .of tt_f2m
def con_f2m : BC Tryz.prog :=
 CH 86 J_f2m S_f2m D_f2m 1 0 [.any] (lk mxk lbn sd_f2m)
abbrev X_f2n : Type := TIn
abbrev R_f2n : Type := Bool
def J_f2n : BH Tryz.prog :=
 BR Tryz.prog Tryz.f87 11 [(1, 3)] [] [] [] [.any] [] [] R_f2n [] fun y => [V.bool y]
def S_f2n : AR :=
 Aj Tryz.f87 1 0 X_f2n (fun x => [e_TIn x]) fun l => (d_TIn (at_ l 0))
def tt_f2n (x : X_f2n) : TT Tryz.prog R_f2n :=
 (.ite (Bh 15 x.Op)
 (.ret (Bh x.Op 17))
 (.ret false))
theorem sd_f2n (x : X_f2n) : (tt_f2n x).AH :=
 (TT.sI TT.sR TT.sR)
def D_f2n : AV X_f2n R_f2n := .of tt_f2n
def con_f2n : BC Tryz.prog :=
 CH 87 J_f2n S_f2n D_f2n 1 0 [.any] (lk mxk lbn sd_f2n)
abbrev X_f2k : Type := Int
abbrev R_f2k : Type := Bool
def J_f2k : BH Tryz.prog :=
 BR Tryz.prog Tryz.f91 13 [] [] [] [] [.any] [] [] R_f2k [] fun y => [V.bool y]
def S_f2k : AR :=
 Aj Tryz.f91 1 0 X_f2k (fun x => [(V.int .i64) x]) fun l => (dI (at_ l 0))
def tt_f2k (x : X_f2k) : TT Tryz.prog R_f2k :=
 (.ite (Ad x 18)
 (.ret true)
 (.ite (Ad x 19)
 (.ret true)
 (.ret (Ad x 20))))
theorem sd_f2k (x : X_f2k) : (tt_f2k x).AH :=
 (TT.sI TT.sR (TT.sI TT.sR TT.sR))
def D_f2k : AV X_f2k R_f2k := .of tt_f2k
def con_f2k : BC Tryz.prog :=
 CH 91 J_f2k S_f2k D_f2k 1 0 [.any] (lk mxk lbn sd_f2k)
abbrev X_f2o : Type := TPg × TIn × Int
abbrev R_f2o : Type := Int
def J_f2o : BH Tryz.prog :=
 BR Tryz.prog Tryz.f67 50 [(3, 3), (4, 3)] [] [] [] [.any] [] [con_f2k, con_f2n, con_f2m] R_f2o [] fun y => [(V.int .i64) y]
def S_f2o : AR :=
 Aj Tryz.f67 3 0 X_f2o (fun x => [e_TPg x.1, e_TIn x.2.1, (V.int .i64) x.2.2]) fun l => (d_TPg (at_ l 0), d_TIn (at_ l 1), dI (at_ l 2))
def tt_f2o (x : X_f2o) : TT Tryz.prog R_f2o :=
 (.call con_f2m x.snd.fst fun (y1 : R_f2m) =>
 (.ite (!y1)
 (.ret 6)
 (.call con_f2n x.snd.fst fun (y2 : R_f2n) =>
 (.ite y2
 (.ite (Bu (IntKind.u64.wrap x.snd.snd) x.snd.fst.K)
 (.ret 5)
 (.call con_f2k x.snd.fst.Op fun (y3 : R_f2k) =>
 (.ite y3
 (.ite (Bh ((x.fst.AK.n : Nat) : Int) x.snd.fst.C)
 (.ret 7)
 (.ite (Ad x.snd.fst.Op 19)
 (.need (BA x.snd.fst.C x.fst.AK.n) <|
 (.ite (Bh (IntKind.u64.wrap (x.fst.AK.get (Int.toNat x.snd.fst.C)).AX) x.snd.fst.K)
 (.ret 7)
 (.ret 0)))
 (.ret 0)))
 (.ite (Ad x.snd.fst.Op 19)
 (.need (BA x.snd.fst.C x.fst.AK.n) <|
 (.ite (Bh (IntKind.u64.wrap (x.fst.AK.get (Int.toNat x.snd.fst.C)).AX) x.snd.fst.K)
 (.ret 7)
 (.ret 0)))
 (.ret 0)))))
 (.call con_f2k x.snd.fst.Op fun (y3 : R_f2k) =>
 (.ite y3
 (.ite (Bh ((x.fst.AK.n : Nat) : Int) x.snd.fst.C)
 (.ret 7)
 (.ite (Ad x.snd.fst.Op 19)
 (.need (BA x.snd.fst.C x.fst.AK.n) <|
 (.ite (Bh (IntKind.u64.wrap (x.fst.AK.get (Int.toNat x.snd.fst.C)).AX) x.snd.fst.K)
 (.ret 7)
 (.ret 0)))
 (.ret 0)))
 (.ite (Ad x.snd.fst.Op 19)
 (.need (BA x.snd.fst.C x.fst.AK.n) <|
 (.ite (Bh (IntKind.u64.wrap (x.fst.AK.get (Int.toNat x.snd.fst.C)).AX) x.snd.fst.K)
 (.ret 7)
 (.ret 0)))
 (.ret 0))))))))
theorem sd_f2o (x : X_f2o) : (tt_f2o x).AH :=
 (TT.sC fun _ => (TT.sI TT.sR (TT.sC fun _ => (TT.sI (TT.sI TT.sR (TT.sC fun _ => (TT.sI (TT.sI TT.sR (TT.sI (TT.sN (TT.sI TT.sR TT.sR)) TT.sR)) (TT.sI (TT.sN (TT.sI TT.sR TT.sR)) TT.sR)))) (TT.sC fun _ => (TT.sI (TT.sI TT.sR (TT.sI (TT.sN (TT.sI TT.sR TT.sR)) TT.sR)) (TT.sI (TT.sN (TT.sI TT.sR TT.sR)) TT.sR)))))))
def D_f2o : AV X_f2o R_f2o := .of tt_f2o
def con_f2o : BC Tryz.prog :=
 CH 67 J_f2o S_f2o D_f2o 3 0 [sh_TPg, .any, .any] (lk mxk lbn sd_f2o)
abbrev X_f5 : Type := TPg
abbrev R_f5 : Type := Int × Int × Int
def J_f5 : BH Tryz.prog :=
 BR Tryz.prog Tryz.f41 72 [(1, 3)] [] [] [] [.any, .any, .any] [] [con_f2o, con_f1r] R_f5 [] fun y => [V.CG (V.cons ((V.int .i64) y.1) (V.cons ((V.int .i64) y.2.1) (V.cons ((V.int .i64) y.2.2) (V.unit))))]
def S_f5 : AR :=
 Aj Tryz.f41 1 0 X_f5 (fun x => [e_TPg x]) fun l => (d_TPg (at_ l 0))
structure X_f5_4 where
 DH : TPg
def S_f5_4 : AR :=
 Ak Tryz.f41 4 [(1, .any)] [] [] X_f5_4 (fun x => [(DQ e_TPg) x.DH]) fun l => ⟨(DR d_TPg) (at_ l 0)⟩
structure X_f5_5 where
 DH : TPg
 L0 : (Sl TRg)
 D0 : Int
 El : Int
def S_f5_5 : AR :=
 Ak Tryz.f41 5 [(1, .any), (29, hsl_TRg), (30, .any), (31, .any)] [] [] X_f5_5 (fun x => [(DQ e_TPg) x.DH, esl_TRg x.L0, (V.int .i64) x.D0, (V.int .i64) x.El]) fun l => ⟨(DR d_TPg) (at_ l 0), dsl_TRg (at_ l 1), dI (at_ l 2), dI (at_ l 3)⟩
structure X_f5_10 where
 DH : TPg
def S_f5_10 : AR :=
 Ak Tryz.f41 10 [(1, .any)] [] [] X_f5_10 (fun x => [(DQ e_TPg) x.DH]) fun l => ⟨(DR d_TPg) (at_ l 0)⟩
structure X_f5_11 where
 DH : TPg
 Gt : (Sl (Sl TIn))
 J3 : Int
 Fl : Int
def S_f5_11 : AR :=
 Ak Tryz.f41 11 [(1, .any), (42, hsl_sl_TIn), (43, .any), (44, .any)] [] [] X_f5_11 (fun x => [(DQ e_TPg) x.DH, esl_sl_TIn x.Gt, (V.int .i64) x.J3, (V.int .i64) x.Fl]) fun l => ⟨(DR d_TPg) (at_ l 0), dsl_sl_TIn (at_ l 1), dI (at_ l 2), dI (at_ l 3)⟩
structure X_f5_16 where
 DH : TPg
 t_8 : Int
 l_9 : (Sl TIn)
 Gt : (Sl (Sl TIn))
 J3 : Int
 Fl : Int
 RL : (Sl TIn)
 SK : Int
 Od : Int
def S_f5_16 : AR :=
 Ak Tryz.f41 16 [(1, .any), (8, .any), (9, hsl_TIn), (42, hsl_sl_TIn), (43, .any), (44, .any), (53, hsl_TIn), (54, .any), (55, .any)] [] [] X_f5_16 (fun x => [(DQ e_TPg) x.DH, (V.int .i64) x.t_8, esl_TIn x.l_9, esl_sl_TIn x.Gt, (V.int .i64) x.J3, (V.int .i64) x.Fl, esl_TIn x.RL, (V.int .i64) x.SK, (V.int .i64) x.Od]) fun l => ⟨(DR d_TPg) (at_ l 0), dI (at_ l 1), dsl_TIn (at_ l 2), dsl_sl_TIn (at_ l 3), dI (at_ l 4), dI (at_ l 5), dsl_TIn (at_ l 6), dI (at_ l 7), dI (at_ l 8)⟩
structure X_f5_22 where
 DH : TPg
 Gt : (Sl (Sl TIn))
 J3 : Int
 Fl : Int
def S_f5_22 : AR :=
 Ak Tryz.f41 22 [(1, .any), (42, hsl_sl_TIn), (43, .any), (44, .any)] [] [] X_f5_22 (fun x => [(DQ e_TPg) x.DH, esl_sl_TIn x.Gt, (V.int .i64) x.J3, (V.int .i64) x.Fl]) fun l => ⟨(DR d_TPg) (at_ l 0), dsl_sl_TIn (at_ l 1), dI (at_ l 2), dI (at_ l 3)⟩
def tt_f5_22 (D_f5_11 : AV X_f5_11 R_f5) (x : X_f5_22) : TT Tryz.prog R_f5 :=
 (.Ac S_f5_11 D_f5_11 (X_f5_11.mk x.DH x.Gt x.J3 (IntKind.i64.wrap (x.Fl + 1))))
theorem sd_f5_22 (D_f5_11 : AV X_f5_11 R_f5) (x : X_f5_22) : (tt_f5_22 D_f5_11 x).AH :=
 TT.sJ
def D_f5_22 (D_f5_11 : AV X_f5_11 R_f5) : AV X_f5_22 R_f5 := .of (tt_f5_22 D_f5_11)
theorem ok_f5_22 (D_f5_11 : AV X_f5_11 R_f5) (h_11 : AZ J_f5 S_f5_11 D_f5_11) : AZ J_f5 S_f5_22 (D_f5_22 D_f5_11) :=
 lk mxk (lbc h_11 rfl lbn) (sd_f5_22 D_f5_11)
def tt_f5_16 (D_f5_11 : AV X_f5_11 R_f5) (D_f5_16 : AV X_f5_16 R_f5) (x : X_f5_16) : TT Tryz.prog R_f5 :=
 (.ite (Bu x.Od x.SK)
 (.need (BA x.Od x.RL.n) <|
 (.call con_f2o (x.DH, ((x.RL.get (Int.toNat x.Od)), ((x.l_9.n : Nat) : Int))) fun (y3 : R_f2o) =>
 (.ite (!(Ad y3 0))
 (.ret (x.t_8, (x.Od, y3)))
 (.Ac S_f5_16 D_f5_16 (X_f5_16.mk x.DH x.t_8 x.l_9 x.Gt x.J3 x.Fl x.RL x.SK (IntKind.i64.wrap (x.Od + 1)))))))
 (.Ac S_f5_22 (D_f5_22 D_f5_11) (X_f5_22.mk x.DH x.Gt x.J3 x.Fl)))
theorem sd_f5_16 (D_f5_11 : AV X_f5_11 R_f5) (D_f5_16 : AV X_f5_16 R_f5) (x : X_f5_16) : (tt_f5_16 D_f5_11 D_f5_16 x).AH :=
 (TT.sI (TT.sN (TT.sC fun _ => (TT.sI TT.sR TT.sJ))) TT.sJ)
def D_f5_16 (D_f5_11 : AV X_f5_11 R_f5) : AV X_f5_16 R_f5 := AV.loop (tt_f5_16 D_f5_11)
theorem ok_f5_16 (D_f5_11 : AV X_f5_11 R_f5) (h_11 : AZ J_f5 S_f5_11 D_f5_11) : AZ J_f5 S_f5_16 (D_f5_16 D_f5_11) :=
 BF fun D_f5_16 h_16 => lk mxk (lbc h_11 rfl (lbc h_16 rfl (lbc (ok_f5_22 D_f5_11 h_11) rfl lbn))) (sd_f5_16 D_f5_11 D_f5_16)
def tt_f5_11 (D_f5_11 : AV X_f5_11 R_f5) (x : X_f5_11) : TT Tryz.prog R_f5 :=
 (.ite (Bu x.Fl x.J3)
 (.need (BA x.Fl x.Gt.n) <|
 (.ite (Bu 256 (((x.Gt.get (Int.toNat x.Fl)).n : Nat) : Int))
 (.ret (x.Fl, (256, 4)))
 (.Ac S_f5_16 (D_f5_16 D_f5_11) (X_f5_16.mk x.DH x.Fl (x.Gt.get (Int.toNat x.Fl)) x.Gt x.J3 x.Fl (x.Gt.get (Int.toNat x.Fl)) (((x.Gt.get (Int.toNat x.Fl)).n : Nat) : Int) 0))))
 (.ret (0, (0, 0))))
theorem sd_f5_11 (D_f5_11 : AV X_f5_11 R_f5) (x : X_f5_11) : (tt_f5_11 D_f5_11 x).AH :=
 (TT.sI (TT.sN (TT.sI TT.sR TT.sJ)) TT.sR)
def D_f5_11 : AV X_f5_11 R_f5 := AV.loop tt_f5_11
theorem ok_f5_11 : AZ J_f5 S_f5_11 D_f5_11 :=
 BF fun D_f5_11 h_11 => lk mxk (lbc h_11 rfl (lbc (ok_f5_22 D_f5_11 h_11) rfl (lbc (ok_f5_16 D_f5_11 h_11) rfl lbn))) (sd_f5_11 D_f5_11)
def tt_f5_10 (x : X_f5_10) : TT Tryz.prog R_f5 :=
 (.Ac S_f5_11 D_f5_11 (X_f5_11.mk x.DH x.DH.AD ((x.DH.AD.n : Nat) : Int) 0))
theorem sd_f5_10 (x : X_f5_10) : (tt_f5_10 x).AH :=
 TT.sJ
def D_f5_10 : AV X_f5_10 R_f5 := .of tt_f5_10
theorem ok_f5_10 : AZ J_f5 S_f5_10 D_f5_10 :=
 lk mxk (lbc ok_f5_11 rfl lbn) sd_f5_10
def tt_f5_5 (D_f5_5 : AV X_f5_5 R_f5) (x : X_f5_5) : TT Tryz.prog R_f5 :=
 (.ite (Bu x.El x.D0)
 (.need (BA x.El x.L0.n) <|
 (.call con_f1r (x.L0.get (Int.toNat x.El)) fun (y2 : R_f1r) =>
 (.ite (!y2)
 (.ret ((-(1 : Int)), (x.El, 7)))
 (.Ac S_f5_5 D_f5_5 (X_f5_5.mk x.DH x.L0 x.D0 (IntKind.i64.wrap (x.El + 1)))))))
 (.Ac S_f5_10 D_f5_10 (X_f5_10.mk x.DH)))
theorem sd_f5_5 (D_f5_5 : AV X_f5_5 R_f5) (x : X_f5_5) : (tt_f5_5 D_f5_5 x).AH :=
 (TT.sI (TT.sN (TT.sC fun _ => (TT.sI TT.sR TT.sJ))) TT.sJ)
def D_f5_5 : AV X_f5_5 R_f5 := AV.loop tt_f5_5
theorem ok_f5_5 : AZ J_f5 S_f5_5 D_f5_5 :=
 BF fun D_f5_5 h_5 => lk mxk (lbc h_5 rfl (lbc ok_f5_11 rfl (lbc ok_f5_10 rfl lbn))) (sd_f5_5 D_f5_5)
def tt_f5_4 (x : X_f5_4) : TT Tryz.prog R_f5 :=
 (.Ac S_f5_5 D_f5_5 (X_f5_5.mk x.DH x.DH.AK ((x.DH.AK.n : Nat) : Int) 0))
theorem sd_f5_4 (x : X_f5_4) : (tt_f5_4 x).AH :=
 TT.sJ
def D_f5_4 : AV X_f5_4 R_f5 := .of tt_f5_4
theorem ok_f5_4 : AZ J_f5 S_f5_4 D_f5_4 :=
 lk mxk (lbc ok_f5_11 rfl (lbc ok_f5_10 rfl (lbc ok_f5_5 rfl lbn))) sd_f5_4
def tt_f5 (x : X_f5) : TT Tryz.prog R_f5 :=
 (.ite (Ad ((x.AD.n : Nat) : Int) 0)
 (.ret (0, (0, 1)))
 (.ite (Bu 8 ((x.AD.n : Nat) : Int))
 (.ret (0, (0, 1)))
 (.ite (Bu 8 ((x.AK.n : Nat) : Int))
 (.ret (0, (0, 1)))
 (.Ac S_f5_4 D_f5_4 (X_f5_4.mk x)))))
theorem sd_f5 (x : X_f5) : (tt_f5 x).AH :=
 (TT.sI TT.sR (TT.sI TT.sR (TT.sI TT.sR TT.sJ)))
def D_f5 : AV X_f5 R_f5 := .of tt_f5
def con_f5 : BC Tryz.prog :=
 CH 41 J_f5 S_f5 D_f5 1 0 [sh_TPg] (lk mxk (lbc ok_f5_11 rfl (lbc ok_f5_10 rfl (lbc ok_f5_5 rfl (lbc ok_f5_4 rfl lbn)))) sd_f5)
abbrev X_f2p : Type := TPg
abbrev R_f2p : Type := Bool
def J_f2p : BH Tryz.prog :=
 BR Tryz.prog Tryz.f21 14 [(1, 3), (6, 1)] [] [] [] [.any] [] [con_f5] R_f2p [] fun y => [V.bool y]
def S_f2p : AR :=
 Aj Tryz.f21 1 0 X_f2p (fun x => [e_TPg x]) fun l => (d_TPg (at_ l 0))
def tt_f2p (x : X_f2p) : TT Tryz.prog R_f2p :=
 (.call con_f5 x fun (y1 : R_f5) =>
 (.ret (Ad y1.snd.snd 0)))
theorem sd_f2p (x : X_f2p) : (tt_f2p x).AH :=
 (TT.sC fun _ => TT.sR)
def D_f2p : AV X_f2p R_f2p := .of tt_f2p
def con_f2p : BC Tryz.prog :=
 CH 21 J_f2p S_f2p D_f2p 1 0 [sh_TPg] (lk mxk lbn sd_f2p)
abbrev X_f1p : Type := (Sl TRg)
abbrev R_f1p : Type := (Sl TRg)
def J_f1p : BH Tryz.prog :=
 BR Tryz.prog Tryz.f42 8 [(6, 1)] [] [] [.D8 2] [hsl_TRg] [] [] R_f1p [] fun y => [esl_TRg y]
def S_f1p : AR :=
 Aj Tryz.f42 1 0 X_f1p (fun x => [esl_TRg x]) fun l => (dsl_TRg (at_ l 0))
def tt_f1p (x : X_f1p) : TT Tryz.prog R_f1p :=
 (.ite x.nil
 (.ret (Sl.mk true 0 (fun _i1 => (TRg.mk 0 0 0))))
 (.need (true && (room ((0 : Nat) + x.n) 24)) <|
 (.ret (Sl.mk (cond (Nat.beq x.n 0) false false) ((0 : Nat) + x.n) (fun i1 => (TRg.mk (cond (Nat.blt i1 0) (0 : Int) (x.get (i1 - 0)).Kind) (cond (Nat.blt i1 0) (0 : Int) (x.get (i1 - 0)).Dn) (cond (Nat.blt i1 0) (0 : Int) (x.get (i1 - 0)).AX)))))))
theorem sd_f1p (x : X_f1p) : (tt_f1p x).AH :=
 (TT.sI TT.sR (TT.sN TT.sR))
def D_f1p : AV X_f1p R_f1p := .of tt_f1p
def con_f1p : BC Tryz.prog :=
 CH 42 J_f1p S_f1p D_f1p 1 0 [hsl_TRg] (lk mxk lbn sd_f1p)
abbrev X_f1h : Type := (Sl TIn)
abbrev R_f1h : Type := (Sl TIn)
def J_f1h : BH Tryz.prog :=
 BR Tryz.prog Tryz.f43 8 [(6, 1)] [] [] [.D8 2] [hsl_TIn] [] [] R_f1h [] fun y => [esl_TIn y]
def S_f1h : AR :=
 Aj Tryz.f43 1 0 X_f1h (fun x => [esl_TIn x]) fun l => (dsl_TIn (at_ l 0))
def tt_f1h (x : X_f1h) : TT Tryz.prog R_f1h :=
 (.ite x.nil
 (.ret (Sl.mk true 0 (fun _i1 => (TIn.mk 0 0 0 0 0 0))))
 (.need (true && (room ((0 : Nat) + x.n) 48)) <|
 (.ret (Sl.mk (cond (Nat.beq x.n 0) false false) ((0 : Nat) + x.n) (fun i1 => (TIn.mk (cond (Nat.blt i1 0) (0 : Int) (x.get (i1 - 0)).Op) (cond (Nat.blt i1 0) (0 : Int) (x.get (i1 - 0)).A) (cond (Nat.blt i1 0) (0 : Int) (x.get (i1 - 0)).B) (cond (Nat.blt i1 0) (0 : Int) (x.get (i1 - 0)).C) (cond (Nat.blt i1 0) (0 : Int) (x.get (i1 - 0)).D) (cond (Nat.blt i1 0) (0 : Int) (x.get (i1 - 0)).K)))))))
theorem sd_f1h (x : X_f1h) : (tt_f1h x).AH :=
 (TT.sI TT.sR (TT.sN TT.sR))
def D_f1h : AV X_f1h R_f1h := .of tt_f1h
def con_f1h : BC Tryz.prog :=
 CH 43 J_f1h S_f1h D_f1h 1 0 [hsl_TIn] (lk mxk lbn sd_f1h)
abbrev DslA_sl_TIn : Type := (Sl (Sl TIn))
def eslA_sl_TIn : DslA_sl_TIn → V := (MY (some 77) 1 esl_TIn)
def dslA_sl_TIn : V → DslA_sl_TIn := (LW dsl_TIn)
def hslA_sl_TIn : Sh := (.sl (some 77) 1 (esl_TIn (dsl_TIn .undef)))
def e_TPg_1 (x : TPg) : V :=
 V.cons (esl_TRg x.AK) (V.cons (eslA_sl_TIn x.AD) (V.unit))
theorem nu_e_TPg_1 (x : TPg) : (e_TPg_1 x).CB := ⟨trivial, trivial, trivial⟩
def sh_TPg_1 : Sh := (.cons hsl_TRg (.cons hslA_sl_TIn .any))
abbrev X_fq : Type := TPg
abbrev R_fq : Type := TPg
def J_fq : BH Tryz.prog :=
 BR Tryz.prog Tryz.f22 26 [(1, 3), (18, 1), (19, 1)] [] [] [] [sh_TPg] [] [con_f1h, con_f1p] R_fq [] fun y => [e_TPg y]
def S_fq : AR :=
 Aj Tryz.f22 1 0 X_fq (fun x => [e_TPg x]) fun l => (d_TPg (at_ l 0))
structure X_fq_3 where
 P6 : (Sl (Sl TIn))
 RN : Int
 M9 : Int
 CM : TPg
 C4 : TPg
def S_fq_3 : AR :=
 Ak Tryz.f22 3 [(2, .any), (3, .any), (11, hsl_sl_TIn), (12, .any), (13, .any)] [] [(.loc 2 0, sh_TPg), (.loc 3 0, sh_TPg_1)] X_fq_3 (fun x => [(V.ptr (.loc 2 0) []), (V.ptr (.loc 3 0) []), esl_sl_TIn x.P6, (V.int .i64) x.RN, (V.int .i64) x.M9, e_TPg x.CM, e_TPg_1 x.C4]) fun l => ⟨dsl_sl_TIn (at_ l 2), dI (at_ l 3), dI (at_ l 4), d_TPg (at_ l 5), d_TPg (at_ l 6)⟩
def tt_fq_3 (D_fq_3 : AV X_fq_3 R_fq) (x : X_fq_3) : TT Tryz.prog R_fq :=
 (.ite (Bu x.M9 x.RN)
 (.need (BA x.M9 x.P6.n) <|
 (.call con_f1h (x.P6.get (Int.toNat x.M9)) fun (y2 : R_f1h) =>
 (.need (true && (room (x.C4.AD.n + 1) 24)) <|
 (.Ac S_fq_3 D_fq_3 (X_fq_3.mk x.P6 x.RN (IntKind.i64.wrap (x.M9 + 1)) x.CM (TPg.mk x.C4.AK (Sl.mk (cond (Nat.beq 1 0) x.C4.AD.nil false) (x.C4.AD.n + 1) (fun i3 => (Sl.mk (cond (Nat.blt i3 x.C4.AD.n) (x.C4.AD.get i3).nil y2.nil) (cond (Nat.blt i3 x.C4.AD.n) (x.C4.AD.get i3).n y2.n) (fun i4 => (TIn.mk (cond (Nat.blt i3 x.C4.AD.n) ((x.C4.AD.get i3).get i4).Op (y2.get i4).Op) (cond (Nat.blt i3 x.C4.AD.n) ((x.C4.AD.get i3).get i4).A (y2.get i4).A) (cond (Nat.blt i3 x.C4.AD.n) ((x.C4.AD.get i3).get i4).B (y2.get i4).B) (cond (Nat.blt i3 x.C4.AD.n) ((x.C4.AD.get i3).get i4).C (y2.get i4).C) (cond (Nat.blt i3 x.C4.AD.n) ((x.C4.AD.get i3).get i4).D (y2.get i4).D) (cond (Nat.blt i3 x.C4.AD.n) ((x.C4.AD.get i3).get i4).K (y2.get i4).K))))))))))))
 (.ret x.C4))
theorem sd_fq_3 (D_fq_3 : AV X_fq_3 R_fq) (x : X_fq_3) : (tt_fq_3 D_fq_3 x).AH :=
 (TT.sI (TT.sN (TT.sC fun _ => (TT.sN TT.sJ))) TT.sR)
def D_fq_3 : AV X_fq_3 R_fq := AV.loop tt_fq_3
theorem ok_fq_3 : AZ J_fq S_fq_3 D_fq_3 :=
 BF fun D_fq_3 h_3 => lk mxk (lbc h_3 rfl lbn) (sd_fq_3 D_fq_3)
def tt_fq (x : X_fq) : TT Tryz.prog R_fq :=
 (.call con_f1p x.AK fun (y1 : R_f1p) =>
 (.Ac S_fq_3 D_fq_3 (X_fq_3.mk x.AD ((x.AD.n : Nat) : Int) 0 (TPg.mk (Sl.mk true 0 (fun _i2 => (TRg.mk 0 0 0))) (Sl.mk true 0 (fun _i2 => (Sl.mk true 0 (fun _i3 => (TIn.mk 0 0 0 0 0 0)))))) (TPg.mk y1 (Sl.mk true 0 (fun _i2 => (Sl.mk true 0 (fun _i3 => (TIn.mk 0 0 0 0 0 0)))))))))
theorem sd_fq (x : X_fq) : (tt_fq x).AH :=
 (TT.sC fun _ => TT.sJ)
def D_fq : AV X_fq R_fq := .of tt_fq
def con_fq : BC Tryz.prog :=
 CH 22 J_fq S_fq D_fq 1 0 [sh_TPg] (lk mxk (lbc ok_fq_3 rfl lbn) sd_fq)
abbrev X_f2t : Type := Int × Int
abbrev R_f2t : Type := Bool
def J_f2t : BH Tryz.prog :=
 BR Tryz.prog Tryz.f68 19 [] [] [] [] [.any] [] [] R_f2t [] fun y => [V.bool y]
def S_f2t : AR :=
 Aj Tryz.f68 2 0 X_f2t (fun x => [(V.int .i64) x.1, (V.int .i64) x.2]) fun l => (dI (at_ l 0), dI (at_ l 1))
def tt_f2t (x : X_f2t) : TT Tryz.prog R_f2t :=
 (.ite (Bh 1 x.fst)
 (.ite (Bh x.fst 64)
 (.ite (Bh 1 x.snd)
 (.ret (Bh x.snd 8))
 (.ret false))
 (.ret false))
 (.ret false))
theorem sd_f2t (x : X_f2t) : (tt_f2t x).AH :=
 (TT.sI (TT.sI (TT.sI TT.sR TT.sR) TT.sR) TT.sR)
def D_f2t : AV X_f2t R_f2t := .of tt_f2t
def con_f2t : BC Tryz.prog :=
 CH 68 J_f2t S_f2t D_f2t 2 0 [.any, .any] (lk mxk lbn sd_f2t)
abbrev X_f25 : Type := Int
abbrev R_f25 : Type := Int
def J_f25 : BH Tryz.prog :=
 BR Tryz.prog Tryz.f69 5 [] [] [] [] [.any] [] [] R_f25 [] fun y => [(V.int .u64) y]
def S_f25 : AR :=
 Aj Tryz.f69 1 0 X_f25 (fun x => [(V.int .u64) x]) fun l => (dI (at_ l 0))
def tt_f25 (x : X_f25) : TT Tryz.prog R_f25 :=
 (.ret (IntKind.u64.wrap ((2 : Int) * x)))
theorem sd_f25 (x : X_f25) : (tt_f25 x).AH :=
 TT.sR
def D_f25 : AV X_f25 R_f25 := .of tt_f25
def con_f25 : BC Tryz.prog :=
 CH 69 J_f25 S_f25 D_f25 1 0 [.any] (lk mxk lbn sd_f25)
def d_TSo (v : V) : TSo :=
 ⟨dI (fd v 0), dI (fd v 1), dI (fd v 2)⟩
def e_TSo (x : TSo) : V :=
 V.cons ((V.int .u64) x.AQ) (V.cons ((V.int .u64) x.Value) (V.cons ((V.int .i64) x.Left) (V.unit)))
theorem nu_e_TSo (x : TSo) : (e_TSo x).CB := ⟨trivial, trivial, trivial, trivial⟩
abbrev Dsl_TSo : Type := (Sl TSo)
def esl_TSo : Dsl_TSo → V := (MY none 3 e_TSo)
def dsl_TSo : V → Dsl_TSo := (LW d_TSo)
def hsl_TSo : Sh := (.sl none 3 (e_TSo (d_TSo .undef)))
abbrev Dosl_TSo : Type := (Sl TSo)
def eosl_TSo : Dosl_TSo → V := (Rq 115 3 e_TSo)
def dosl_TSo : V → Dosl_TSo := (LW d_TSo)
def hosl_TSo : Sh := (.Aq 115 3 (e_TSo (d_TSo .undef)))
structure TSs where
 l : (Sl TSo)
 AP : Int
def d_TSs (v : V) : TSs :=
 ⟨dosl_TSo (fd v 0), dI (fd v 1)⟩
def e_TSs (x : TSs) : V :=
 V.cons (eosl_TSo x.l) (V.cons ((V.int .i64) x.AP) (V.unit))
theorem nu_e_TSs (x : TSs) : (e_TSs x).CB := ⟨(fun _ _ => (nu_e_TSo) _ : ∀ y, (eosl_TSo y).CB) x.l, trivial, trivial⟩
def sh_TSs : Sh := (.cons hosl_TSo .any)
abbrev Dbox_TSs : Type := (Bx TSs)
def ebox_TSs : Dbox_TSs → V := (eBx e_TSs)
def dbox_TSs : V → Dbox_TSs := (dBx d_TSs)
def hbox_TSs : Sh := (.box (e_TSs (d_TSs .undef)))
abbrev X_f1g : Type := Int × Int
abbrev R_f1g : Type := (Bx TSs) × Int
def J_f1g : BH Tryz.prog :=
 BR Tryz.prog Tryz.f44 37 [(13, 1)] [(5, [.close (.loc 28 0), .close (.loc 20 0)]), (6, [.close (.loc 28 0), .close (.loc 20 0)]), (7, [.close (.loc 28 0), .close (.loc 20 0)]), (8, [.close (.loc 28 0), .close (.loc 20 0)]), (9, [.close (.loc 28 0), .close (.loc 20 0)])] [(7, [.Gb (.loc 16 0) [.BN 0 0] 28])] [.close (.loc 28 0), .close (.loc 20 0), .D8 4] [hbox_TSs, .any] [] [con_f25, con_f2t] R_f1g [(0, [⟨.loc 28 0, .loc 16 0, [.BN 0 0], none, none⟩]), (5, [⟨.loc 28 0, .loc 16 0, [.BN 0 0], none, none⟩])] fun y => [V.CG (V.cons (ebox_TSs y.1) (V.cons ((V.int .i64) y.2) (V.unit)))]
def S_f1g : AR :=
 Aj Tryz.f44 2 0 X_f1g (fun x => [(V.int .i64) x.1, (V.int .i64) x.2]) fun l => (dI (at_ l 0), dI (at_ l 1))
structure X_f1g_5 where
 J4 : Int
 Fm : Int
 FN : TSs
def S_f1g_5 : AR :=
 Ak Tryz.f44 5 (an [6, 21, 22]) [] [(.loc 16 0, sh_TSs)] X_f1g_5 (fun x => [(V.ptr (.loc 16 0) []), (V.int .i64) x.J4, (V.int .i64) x.Fm, e_TSs x.FN]) fun l => ⟨dI (at_ l 1), dI (at_ l 2), d_TSs (at_ l 3)⟩
def tt_f1g_5 (D_f1g_5 : AV X_f1g_5 R_f1g) (x : X_f1g_5) : TT Tryz.prog R_f1g :=
 (.ite (Bu x.Fm x.J4)
 (.call con_f25 (IntKind.u64.wrap x.Fm) fun (y2 : R_f25) =>
 (.need (BA x.Fm x.FN.l.n) <|
 (.need ((Nat.beq x.FN.l.n x.FN.l.n) && true) <|
 (.need ((true && true) && (Nat.beq x.FN.l.n x.FN.l.n)) <|
 (.Ac S_f1g_5 D_f1g_5 (X_f1g_5.mk x.J4 (IntKind.i64.wrap (x.Fm + 1)) (TSs.mk (Sl.mk x.FN.l.nil x.FN.l.n (fun i3 => (TSo.mk (cond (Nat.beq i3 ((0 : Nat) + (Int.toNat x.Fm))) y2 (x.FN.l.get i3).AQ) (cond (Nat.beq i3 ((0 : Nat) + (Int.toNat x.Fm))) (x.FN.l.get ((0 : Nat) + (Int.toNat x.Fm))).Value (x.FN.l.get i3).Value) (cond (Nat.beq i3 ((0 : Nat) + (Int.toNat x.Fm))) (x.FN.l.get ((0 : Nat) + (Int.toNat x.Fm))).Left (x.FN.l.get i3).Left)))) x.FN.AP)))))))
 (.ret ((Bx.mk false x.FN), 0)))
theorem sd_f1g_5 (D_f1g_5 : AV X_f1g_5 R_f1g) (x : X_f1g_5) : (tt_f1g_5 D_f1g_5 x).AH :=
 (TT.sI (TT.sC fun _ => (TT.sN (TT.sN (TT.sN TT.sJ)))) TT.sR)
def D_f1g_5 : AV X_f1g_5 R_f1g := AV.loop tt_f1g_5
theorem ok_f1g_5 : AZ J_f1g S_f1g_5 D_f1g_5 :=
 BF fun D_f1g_5 h_5 => lk mxk (lbc h_5 rfl lbn) (sd_f1g_5 D_f1g_5)
def tt_f1g (x : X_f1g) : TT Tryz.prog R_f1g :=
 (.call con_f2t x fun (y1 : R_f2t) =>
 (.ite (!y1)
 (.ret ((Bx.mk true (TSs.mk (Sl.mk true 0 (fun _i2 => (TSo.mk 0 0 0))) 0)), 1))
 (.need ((((upto x.fst (Int.toNat x.fst)) && (Bh 0 x.fst)) && (room (Int.toNat x.fst) 24)) && (decide ((x.fst ≤ (9223372036854775807 : Int))))) <|
 (.need ((true && true) && (Nat.beq (Int.toNat x.fst) (Int.toNat x.fst))) <|
 (.Ac S_f1g_5 D_f1g_5 (X_f1g_5.mk (((Int.toNat x.fst) : Nat) : Int) 0 (TSs.mk (Sl.mk false (Int.toNat x.fst) (fun _i2 => (TSo.mk 0 0 0))) x.snd)))))))
theorem sd_f1g (x : X_f1g) : (tt_f1g x).AH :=
 (TT.sC fun _ => (TT.sI TT.sR (TT.sN (TT.sN TT.sJ))))
def D_f1g : AV X_f1g R_f1g := .of tt_f1g
def con_f1g : BC Tryz.prog :=
 CH 44 J_f1g S_f1g D_f1g 2 0 [.any, .any] (lk mxk (lbc ok_f1g_5 rfl lbn) sd_f1g)
abbrev X_f30 : Type := TRg
abbrev R_f30 : Type := Bool
def J_f30 : BH Tryz.prog :=
 BR Tryz.prog Tryz.f45 12 [(1, 3)] [] [] [] [.any] [] [] R_f30 [] fun y => [V.bool y]
def S_f30 : AR :=
 Aj Tryz.f45 1 0 X_f30 (fun x => [e_TRg x]) fun l => (d_TRg (at_ l 0))
def tt_f30 (x : X_f30) : TT Tryz.prog R_f30 :=
 (.ite (Ad x.Kind 1)
 (.ret (Ad x.AX 1))
 (.ite (Ad x.Kind 2)
 (.ret true)
 (.ret false)))
theorem sd_f30 (x : X_f30) : (tt_f30 x).AH :=
 (TT.sI TT.sR (TT.sI TT.sR TT.sR))
def D_f30 : AV X_f30 R_f30 := .of tt_f30
def con_f30 : BC Tryz.prog :=
 CH 45 J_f30 S_f30 D_f30 1 0 [.any] (lk mxk lbn sd_f30)
abbrev Mm : Type := (Sl Int)
def JX : Mm → V := (Rq 36 1 (V.int .u64))
def Qk : V → Mm := (LW dI)
def MJ : Sh := (.Aq 36 1 (V.int .u64 0))
structure TRc where
 tail : Int
 AB : (Sl Int)
def d_TRc (v : V) : TRc :=
 ⟨dI (fd v 0), Qk (fd v 1)⟩
def e_TRc (x : TRc) : V :=
 V.cons ((V.int .u64) x.tail) (V.cons (JX x.AB) (V.unit))
theorem nu_e_TRc (x : TRc) : (e_TRc x).CB := ⟨trivial, (fun _ _ => trivial : ∀ y, (JX y).CB) x.AB, trivial⟩
def sh_TRc : Sh := (.cons .any (.cons MJ .any))
structure TRr where
 AA : TRc
 s : (Bx TSs)
 most : Int
 closed : Bool
def d_TRr (v : V) : TRr :=
 ⟨d_TRc (fd v 0), dbox_TSs (fd v 1), dI (fd v 2), dB (fd v 3)⟩
def e_TRr (x : TRr) : V :=
 V.cons (e_TRc x.AA) (V.cons (ebox_TSs x.s) (V.cons ((V.int .u64) x.most) (V.cons (V.bool x.closed) (V.unit))))
theorem nu_e_TRr (x : TRr) : (e_TRr x).CB := ⟨(nu_e_TRc : ∀ y, (e_TRc y).CB) x.AA, (fun _ => (nu_e_TSs) _ : ∀ y, (ebox_TSs y).CB) x.s, trivial, trivial, trivial⟩
def sh_TRr : Sh := (.cons sh_TRc (.cons hbox_TSs .any))
abbrev Dbox_TRr : Type := (Bx TRr)
def ebox_TRr : Dbox_TRr → V := (eBx e_TRr)
def dbox_TRr : V → Dbox_TRr := (dBx d_TRr)
def hbox_TRr : Sh := (.box (e_TRr (d_TRr .undef)))
abbrev X_f23 : Type := TRg
abbrev R_f23 : Type := (Bx TRr) × Int
def J_f23 : BH Tryz.prog :=
 BR Tryz.prog Tryz.f23 31 [(1, 3), (6, 1), (23, 1), (25, 1)] [] [] [.D8 2] [hbox_TRr, .any] [] [con_f30, con_f1g] R_f23 [] fun y => [V.CG (V.cons (ebox_TRr y.1) (V.cons ((V.int .i64) y.2) (V.unit)))]
def S_f23 : AR :=
 Aj Tryz.f23 1 0 X_f23 (fun x => [e_TRg x]) fun l => (d_TRg (at_ l 0))
structure X_f23_4 where
 LU : TRg
 s_4 : (Bx TSs)
def S_f23_4 : AR :=
 Ak Tryz.f23 4 [(1, .any), (4, hbox_TSs)] [] [] X_f23_4 (fun x => [(DQ e_TRg) x.LU, ebox_TSs x.s_4]) fun l => ⟨(DR d_TRg) (at_ l 0), dbox_TSs (at_ l 1)⟩
def tt_f23_4 (x : X_f23_4) : TT Tryz.prog R_f23 :=
 (.need ((((upto x.LU.AX (Int.toNat x.LU.AX)) && (Bh 0 x.LU.AX)) && (room (Int.toNat x.LU.AX) 8)) && (decide ((x.LU.AX ≤ (9223372036854775807 : Int))))) <|
 (.ret ((Bx.mk false (TRr.mk (TRc.mk 0 (Sl.mk false (Int.toNat x.LU.AX) (fun _i1 => (0 : Int)))) x.s_4 (IntKind.u64.wrap x.LU.Dn) false)), 0)))
theorem sd_f23_4 (x : X_f23_4) : (tt_f23_4 x).AH :=
 (TT.sN TT.sR)
def D_f23_4 : AV X_f23_4 R_f23 := .of tt_f23_4
theorem ok_f23_4 : AZ J_f23 S_f23_4 D_f23_4 :=
 lk mxk lbn sd_f23_4
def tt_f23 (x : X_f23) : TT Tryz.prog R_f23 :=
 (.call con_f1g (x.Dn, x.AX) fun (y1 : R_f1g) =>
 (.ite (!(Ad y1.snd 0))
 (.ret ((Bx.mk true (TRr.mk (TRc.mk 0 (Sl.mk true 0 (fun _i2 => (0 : Int)))) (Bx.mk true (TSs.mk (Sl.mk true 0 (fun _i2 => (TSo.mk 0 0 0))) 0)) 0 false)), 1))
 (.call con_f30 x fun (y2 : R_f30) =>
 (.ite (!y2)
 (.ret ((Bx.mk true (TRr.mk (TRc.mk 0 (Sl.mk true 0 (fun _i3 => (0 : Int)))) (Bx.mk true (TSs.mk (Sl.mk true 0 (fun _i3 => (TSo.mk 0 0 0))) 0)) 0 false)), 1))
 (.Ac S_f23_4 D_f23_4 (X_f23_4.mk x y1.fst))))))
theorem sd_f23 (x : X_f23) : (tt_f23 x).AH :=
 (TT.sC fun _ => (TT.sI TT.sR (TT.sC fun _ => (TT.sI TT.sR TT.sJ))))
def D_f23 : AV X_f23 R_f23 := .of tt_f23
def con_f23 : BC Tryz.prog :=
 CH 23 J_f23 S_f23 D_f23 1 0 [.any] (lk mxk (lbc ok_f23_4 rfl lbn) sd_f23)
abbrev Dsl_box_TRr : Type := (Sl (Bx TRr))
def esl_box_TRr : Dsl_box_TRr → V := (MY none 1 ebox_TRr)
def dsl_box_TRr : V → Dsl_box_TRr := (LW dbox_TRr)
def hsl_box_TRr : Sh := (.sl none 1 (ebox_TRr (dbox_TRr .undef)))
abbrev OG : Type := (Sl Int)
def CW : OG → V := (MY none 1 (V.int .u64))
def ED : V → OG := (LW dI)
def C5 : Sh := (.sl none 1 (V.int .u64 0))
structure TTh where
 At : Int
 Phase : Int
 Ring : Int
 Status : Int
 AJ : Int
 Ao : (Nat → Int)
 Seen : (Sl Int)
def d_TTh (v : V) : TTh :=
 ⟨dI (fd v 0), dI (fd v 1), dI (fd v 2), dI (fd v 3), dI (fd v 4), (JZ dI) (fd v 5), ED (fd v 6)⟩
def e_TTh (x : TTh) : V :=
 V.cons ((V.int .i64) x.At) (V.cons ((V.int .i64) x.Phase) (V.cons ((V.int .i64) x.Ring) (V.cons ((V.int .i64) x.Status) (V.cons ((V.int .u64) x.AJ) (V.cons ((Fw 1 8 (V.int .u64)) x.Ao) (V.cons (CW x.Seen) (V.unit)))))))
theorem nu_e_TTh (x : TTh) : (e_TTh x).CB := ⟨trivial, trivial, trivial, trivial, trivial, (fun _ _ => trivial : ∀ y, ((Fw 1 8 (V.int .u64)) y).CB) x.Ao, trivial, trivial⟩
def sh_TTh : Sh := (.cons .any (.cons .any (.cons .any (.cons .any (.cons .any (.cons .any (.cons C5 .any)))))))
abbrev Dosl_TTh : Type := (Sl TTh)
def eosl_TTh : Dosl_TTh → V := (Rq 58 14 e_TTh)
def dosl_TTh : V → Dosl_TTh := (LW d_TTh)
def hosl_TTh : Sh := (.Aq 58 14 (e_TTh (d_TTh .undef)))
abbrev Dosl_box_TRr : Type := (Sl (Bx TRr))
def eosl_box_TRr : Dosl_box_TRr → V := (Rq 70 1 ebox_TRr)
def dosl_box_TRr : V → Dosl_box_TRr := (LW dbox_TRr)
def hosl_box_TRr : Sh := (.Aq 70 1 (ebox_TRr (dbox_TRr .undef)))
structure TFa where
 p : TPg
 threads : (Sl TTh)
 rings : (Sl (Bx TRr))
 now : Int
 reads : Int
 ended : Bool
def d_TFa (v : V) : TFa :=
 ⟨d_TPg (fd v 0), dosl_TTh (fd v 1), dosl_box_TRr (fd v 2), dI (fd v 3), dI (fd v 4), dB (fd v 5)⟩
def e_TFa (x : TFa) : V :=
 V.cons (e_TPg x.p) (V.cons (eosl_TTh x.threads) (V.cons (eosl_box_TRr x.rings) (V.cons ((V.int .u64) x.now) (V.cons ((V.int .u64) x.reads) (V.cons (V.bool x.ended) (V.unit))))))
theorem nu_e_TFa (x : TFa) : (e_TFa x).CB := ⟨(nu_e_TPg : ∀ y, (e_TPg y).CB) x.p, (fun _ _ => (nu_e_TTh) _ : ∀ y, (eosl_TTh y).CB) x.threads, (fun _ _ => (fun _ => (nu_e_TRr) _) _ : ∀ y, (eosl_box_TRr y).CB) x.rings, trivial, trivial, trivial, trivial⟩
def sh_TFa : Sh := (.cons sh_TPg (.cons hosl_TTh (.cons hosl_box_TRr .any)))
abbrev Dbox_TFa : Type := (Bx TFa)
def ebox_TFa : Dbox_TFa → V := (eBx e_TFa)
def dbox_TFa : V → Dbox_TFa := (dBx d_TFa)
def hbox_TFa : Sh := (.box (e_TFa (d_TFa .undef)))
def e_TFa_2 (x : TFa) : V :=
 V.cons (e_TPg x.p) (V.cons (eosl_TTh x.threads) (V.cons (eosl_box_TRr x.rings) (V.cons ((V.int .u64) x.now) (V.cons ((V.int .u64) x.reads) (V.cons (V.bool x.ended) (V.unit))))))
theorem nu_e_TFa_2 (x : TFa) : (e_TFa_2 x).CB := ⟨(nu_e_TPg : ∀ y, (e_TPg y).CB) x.p, (fun _ _ => (nu_e_TTh) _ : ∀ y, (eosl_TTh y).CB) x.threads, (fun _ _ => (fun _ => (nu_e_TRr) _) _ : ∀ y, (eosl_box_TRr y).CB) x.rings, trivial, trivial, trivial, trivial⟩
def sh_TFa_2 : Sh := (.cons sh_TPg (.cons hosl_TTh (.cons hosl_box_TRr .any)))
abbrev X_f10 : Type := TPg
abbrev R_f10 : Type := (Bx TFa) × Int
def J_f10 : BH Tryz.prog :=
 BR Tryz.prog Tryz.f6 44 [(1, 3), (17, 1), (27, 1), (36, 1), (37, 1), (38, 1)] [] [] [.D8 2] [hbox_TFa, .any] [] [con_f2p, con_fq, con_f23] R_f10 [] fun y => [V.CG (V.cons (ebox_TFa y.1) (V.cons ((V.int .i64) y.2) (V.unit)))]
def S_f10 : AR :=
 Aj Tryz.f6 1 0 X_f10 (fun x => [e_TPg x]) fun l => (d_TPg (at_ l 0))
structure X_f10_5 where
 J4 : (Sl TRg)
 Fm : Int
 M8 : Int
 Bo : TFa
def S_f10_5 : AR :=
 Ak Tryz.f6 5 [(4, .any), (21, hsl_TRg), (22, .any), (23, .any)] [] [(.loc 19 0, sh_TFa_2)] X_f10_5 (fun x => [(V.ptr (.loc 19 0) []), esl_TRg x.J4, (V.int .i64) x.Fm, (V.int .i64) x.M8, e_TFa_2 x.Bo]) fun l => ⟨dsl_TRg (at_ l 1), dI (at_ l 2), dI (at_ l 3), d_TFa (at_ l 4)⟩
def tt_f10_5 (D_f10_5 : AV X_f10_5 R_f10) (x : X_f10_5) : TT Tryz.prog R_f10 :=
 (.ite (Bu x.M8 x.Fm)
 (.need (BA x.M8 x.J4.n) <|
 (.call con_f23 (x.J4.get (Int.toNat x.M8)) fun (y2 : R_f23) =>
 (.need (true && (room (x.Bo.rings.n + 1) 8)) <|
 (.Ac S_f10_5 D_f10_5 (X_f10_5.mk x.J4 x.Fm (IntKind.i64.wrap (x.M8 + 1)) (TFa.mk x.Bo.p x.Bo.threads (Sl.mk (cond (Nat.beq 1 0) x.Bo.rings.nil false) (x.Bo.rings.n + 1) (fun i3 => (Bx.mk (cond (Nat.blt i3 x.Bo.rings.n) (x.Bo.rings.get i3).nil y2.fst.nil) (TRr.mk (TRc.mk (cond (Nat.blt i3 x.Bo.rings.n) (x.Bo.rings.get i3).x.AA.tail y2.fst.x.AA.tail) (Sl.mk (cond (Nat.blt i3 x.Bo.rings.n) (x.Bo.rings.get i3).x.AA.AB.nil y2.fst.x.AA.AB.nil) (cond (Nat.blt i3 x.Bo.rings.n) (x.Bo.rings.get i3).x.AA.AB.n y2.fst.x.AA.AB.n) (fun i4 => (cond (Nat.blt i3 x.Bo.rings.n) ((x.Bo.rings.get i3).x.AA.AB.get i4) (y2.fst.x.AA.AB.get i4))))) (Bx.mk (cond (Nat.blt i3 x.Bo.rings.n) (x.Bo.rings.get i3).x.s.nil y2.fst.x.s.nil) (TSs.mk (Sl.mk (cond (Nat.blt i3 x.Bo.rings.n) (x.Bo.rings.get i3).x.s.x.l.nil y2.fst.x.s.x.l.nil) (cond (Nat.blt i3 x.Bo.rings.n) (x.Bo.rings.get i3).x.s.x.l.n y2.fst.x.s.x.l.n) (fun i4 => (TSo.mk (cond (Nat.blt i3 x.Bo.rings.n) ((x.Bo.rings.get i3).x.s.x.l.get i4).AQ (y2.fst.x.s.x.l.get i4).AQ) (cond (Nat.blt i3 x.Bo.rings.n) ((x.Bo.rings.get i3).x.s.x.l.get i4).Value (y2.fst.x.s.x.l.get i4).Value) (cond (Nat.blt i3 x.Bo.rings.n) ((x.Bo.rings.get i3).x.s.x.l.get i4).Left (y2.fst.x.s.x.l.get i4).Left)))) (cond (Nat.blt i3 x.Bo.rings.n) (x.Bo.rings.get i3).x.s.x.AP y2.fst.x.s.x.AP))) (cond (Nat.blt i3 x.Bo.rings.n) (x.Bo.rings.get i3).x.most y2.fst.x.most) (cond (Nat.blt i3 x.Bo.rings.n) (x.Bo.rings.get i3).x.closed y2.fst.x.closed))))) x.Bo.now x.Bo.reads x.Bo.ended))))))
 (.ret ((Bx.mk false x.Bo), 0)))
theorem sd_f10_5 (D_f10_5 : AV X_f10_5 R_f10) (x : X_f10_5) : (tt_f10_5 D_f10_5 x).AH :=
 (TT.sI (TT.sN (TT.sC fun _ => (TT.sN TT.sJ))) TT.sR)
def D_f10_5 : AV X_f10_5 R_f10 := AV.loop tt_f10_5
theorem ok_f10_5 : AZ J_f10 S_f10_5 D_f10_5 :=
 BF fun D_f10_5 h_5 => lk mxk (lbc h_5 rfl lbn) (sd_f10_5 D_f10_5)
def tt_f10 (x : X_f10) : TT Tryz.prog R_f10 :=
 (.call con_f2p x fun (y1 : R_f2p) =>
 (.ite (!y1)
 (.ret ((Bx.mk true (TFa.mk (TPg.mk (Sl.mk true 0 (fun _i2 => (TRg.mk 0 0 0))) (Sl.mk true 0 (fun _i2 => (Sl.mk true 0 (fun _i3 => (TIn.mk 0 0 0 0 0 0)))))) (Sl.mk true 0 (fun _i2 => (TTh.mk 0 0 0 0 0 (fun _i3 => (0 : Int)) (Sl.mk true 0 (fun _i3 => (0 : Int)))))) (Sl.mk true 0 (fun _i2 => (Bx.mk true (TRr.mk (TRc.mk 0 (Sl.mk true 0 (fun _i3 => (0 : Int)))) (Bx.mk true (TSs.mk (Sl.mk true 0 (fun _i3 => (TSo.mk 0 0 0))) 0)) 0 false)))) 0 0 false)), 1))
 (.call con_fq x fun (y2 : R_fq) =>
 (.need ((((upto ((x.AD.n : Nat) : Int) (Int.toNat ((x.AD.n : Nat) : Int))) && (Bh 0 ((x.AD.n : Nat) : Int))) && (room (Int.toNat ((x.AD.n : Nat) : Int)) 128)) && (decide ((((x.AD.n : Nat) : Int) ≤ (9223372036854775807 : Int))))) <|
 (.Ac S_f10_5 D_f10_5 (X_f10_5.mk x.AK ((x.AK.n : Nat) : Int) 0 (TFa.mk y2 (Sl.mk false (Int.toNat ((x.AD.n : Nat) : Int)) (fun _i3 => (TTh.mk 0 0 0 0 0 (fun _i4 => (0 : Int)) (Sl.mk true 0 (fun _i4 => (0 : Int)))))) (Sl.mk true 0 (fun _i3 => (Bx.mk true (TRr.mk (TRc.mk 0 (Sl.mk true 0 (fun _i4 => (0 : Int)))) (Bx.mk true (TSs.mk (Sl.mk true 0 (fun _i4 => (TSo.mk 0 0 0))) 0)) 0 false)))) 0 0 false)))))))
theorem sd_f10 (x : X_f10) : (tt_f10 x).AH :=
 (TT.sC fun _ => (TT.sI TT.sR (TT.sC fun _ => (TT.sN TT.sJ))))
def D_f10 : AV X_f10 R_f10 := .of tt_f10
def con_f10 : BC Tryz.prog :=
 CH 6 J_f10 S_f10 D_f10 1 0 [sh_TPg] (lk mxk (lbc ok_f10_5 rfl lbn) sd_f10)
abbrev Dsl_TTh : Type := (Sl TTh)
def esl_TTh : Dsl_TTh → V := (MY none 14 e_TTh)
def dsl_TTh : V → Dsl_TTh := (LW d_TTh)
def hsl_TTh : Sh := (.sl none 14 (e_TTh (d_TTh .undef)))
abbrev X_fv : Type := Int × TFa
abbrev R_fv : Type := Bool
abbrev RR_fv : Type := Bool × TFa
abbrev p_fv (y : RR_fv) : TFa := y.2
abbrev w_fv (x : X_fv) : TFa := x.2
def J_fv : BH Tryz.prog :=
 BR Tryz.prog Tryz.f26 20 [] [] [] [.back (.loc 16 0)] [.any] [sh_TFa] [] RR_fv [] fun y => [V.bool y.1, e_TFa y.2]
def S_fv : AR :=
 Aj Tryz.f26 2 1 X_fv (fun x => [(V.ptr (.par 0) []), (V.int .i64) x.1, e_TFa x.2]) fun l => (dI (at_ l 1), d_TFa (at_ l 2))
def tt_fv (x : X_fv) : TT Tryz.prog RR_fv :=
 (.ite (Bh 0 x.fst)
 (.need ((true && true) && (Nat.beq x.snd.threads.n x.snd.threads.n)) <|
 (.ret ((Bu x.fst ((x.snd.threads.n : Nat) : Int)), x.snd)))
 (.ret (false, x.snd)))
theorem sd_fv (x : X_fv) : (tt_fv x).AH :=
 (TT.sI (TT.sN TT.sR) TT.sR)
theorem roT_fv (x : X_fv) : TT.Ro p_fv (w_fv x) (tt_fv x) :=
 (TT.rI (TT.rN (TT.rR rfl)) (TT.rR rfl))
def D_fv : AV X_fv R_fv := .ro (.of tt_fv) (fun y => (y.1)) (fun y x => (y, x.2)) fun x y h => congrArg (fun o => (y.1, o)) (roT_fv x y h)
def con_fv : BC Tryz.prog :=
 Cb 26 J_fv S_fv (.of tt_fv) D_fv (fun y x => (y, x.2)) (fun y => V.bool y) 2 1 [.any, .any] (lk mxk lbn sd_fv) (fun x => ⟨(nu_e_TFa : ∀ y, (e_TFa y).CB) (x.2), trivial⟩)
abbrev X_f2c : Type := TIn × (Sl TIn)
abbrev R_f2c : Type := Bool
def J_f2c : BH Tryz.prog :=
 BR Tryz.prog Tryz.f85 19 [(2, 3)] [] [] [] [.any] [] [con_f2n, con_f2m] R_f2c [] fun y => [V.bool y]
def S_f2c : AR :=
 Aj Tryz.f85 2 0 X_f2c (fun x => [e_TIn x.1, (DQ esl_TIn) x.2]) fun l => (d_TIn (at_ l 0), (DR dsl_TIn) (at_ l 1))
def tt_f2c (x : X_f2c) : TT Tryz.prog R_f2c :=
 (.call con_f2m x.fst fun (y1 : R_f2m) =>
 (.ite (!y1)
 (.ret true)
 (.call con_f2n x.fst fun (y2 : R_f2n) =>
 (.ite y2
 (.ret (Bu (IntKind.u64.wrap ((x.snd.n : Nat) : Int)) x.fst.K))
 (.ret false)))))
theorem sd_f2c (x : X_f2c) : (tt_f2c x).AH :=
 (TT.sC fun _ => (TT.sI TT.sR (TT.sC fun _ => (TT.sI TT.sR TT.sR))))
def D_f2c : AV X_f2c R_f2c := .of tt_f2c
def con_f2c : BC Tryz.prog :=
 CH 85 J_f2c S_f2c D_f2c 2 0 [.any, .any] (lk mxk lbn sd_f2c)
abbrev X_f7 : Type := (Sl TIn) × ((Sl TIn))
abbrev R_f7 : Type := Int
def J_f7 : BH Tryz.prog :=
 BR Tryz.prog Tryz.f105 19 [] [] [] [] [.any] [] [con_f2c] R_f7 [] fun y => [(V.int .i64) y]
def S_f7 : AR :=
 Aj Tryz.f105 2 0 X_f7 (fun x => [esl_TIn x.1, (fun x : ((Sl TIn)) => V.fn 85 (V.cons ((DQ esl_TIn) x) (V.unit))) x.2]) fun l => (dsl_TIn (at_ l 0), (fun v => ((DR dsl_TIn) (fd (fnc v) 0) : ((Sl TIn)))) (at_ l 1))
structure X_f7_2 where
 s_0 : (Sl TIn)
 f_1 : ((Sl TIn))
 SJ : Int
 Oa : Int
def S_f7_2 : AR :=
 Ak Tryz.f105 2 [(0, hsl_TIn), (1, .any), (7, .any), (8, .any)] [] [] X_f7_2 (fun x => [esl_TIn x.s_0, (fun x : ((Sl TIn)) => V.fn 85 (V.cons ((DQ esl_TIn) x) (V.unit))) x.f_1, (V.int .i64) x.SJ, (V.int .i64) x.Oa]) fun l => ⟨dsl_TIn (at_ l 0), (fun v => ((DR dsl_TIn) (fd (fnc v) 0) : ((Sl TIn)))) (at_ l 1), dI (at_ l 2), dI (at_ l 3)⟩
def tt_f7_2 (D_f7_2 : AV X_f7_2 R_f7) (x : X_f7_2) : TT Tryz.prog R_f7 :=
 (.ite (Bu x.Oa x.SJ)
 (.need (BA x.Oa x.s_0.n) <|
 (.call con_f2c ((x.s_0.get (Int.toNat x.Oa)), x.f_1) fun (y2 : R_f2c) =>
 (.ite y2
 (.ret x.Oa)
 (.Ac S_f7_2 D_f7_2 (X_f7_2.mk x.s_0 x.f_1 x.SJ (IntKind.i64.wrap (x.Oa + 1)))))))
 (.ret (-(1 : Int))))
theorem sd_f7_2 (D_f7_2 : AV X_f7_2 R_f7) (x : X_f7_2) : (tt_f7_2 D_f7_2 x).AH :=
 (TT.sI (TT.sN (TT.sC fun _ => (TT.sI TT.sR TT.sJ))) TT.sR)
def D_f7_2 : AV X_f7_2 R_f7 := AV.loop tt_f7_2
theorem ok_f7_2 : AZ J_f7 S_f7_2 D_f7_2 :=
 BF fun D_f7_2 h_2 => lk mxk (lbc h_2 rfl lbn) (sd_f7_2 D_f7_2)
def tt_f7 (x : X_f7) : TT Tryz.prog R_f7 :=
 (.Ac S_f7_2 D_f7_2 (X_f7_2.mk x.fst x.snd ((x.fst.n : Nat) : Int) 0))
theorem sd_f7 (x : X_f7) : (tt_f7 x).AH :=
 TT.sJ
def D_f7 : AV X_f7 R_f7 := .of tt_f7
def con_f7 : BC Tryz.prog :=
 CH 105 J_f7 S_f7 D_f7 2 0 [hsl_TIn, .any] (lk mxk (lbc ok_f7_2 rfl lbn) sd_f7)
abbrev X_fh : Type := (Sl TIn) × ((Sl TIn))
abbrev R_fh : Type := Bool
def J_fh : BH Tryz.prog :=
 BR Tryz.prog Tryz.f84 9 [(5, 1)] [] [] [] [.any] [] [con_f7] R_fh [] fun y => [V.bool y]
def S_fh : AR :=
 Aj Tryz.f84 2 0 X_fh (fun x => [esl_TIn x.1, (fun x : ((Sl TIn)) => V.fn 85 (V.cons ((DQ esl_TIn) x) (V.unit))) x.2]) fun l => (dsl_TIn (at_ l 0), (fun v => ((DR dsl_TIn) (fd (fnc v) 0) : ((Sl TIn)))) (at_ l 1))
def tt_fh (x : X_fh) : TT Tryz.prog R_fh :=
 (.call con_f7 x fun (y1 : R_f7) =>
 (.ret (Bh 0 y1)))
theorem sd_fh (x : X_fh) : (tt_fh x).AH :=
 (TT.sC fun _ => TT.sR)
def D_fh : AV X_fh R_fh := .of tt_fh
def con_fh : BC Tryz.prog :=
 CH 84 J_fh S_fh D_fh 2 0 [hsl_TIn, .any] (lk mxk lbn sd_fh)
abbrev X_f2q : Type := (Sl TIn)
abbrev R_f2q : Type := Bool
def J_f2q : BH Tryz.prog :=
 BR Tryz.prog Tryz.f63 10 [(1, 3)] [] [] [] [.any] [] [con_fh] R_f2q [] fun y => [V.bool y]
def S_f2q : AR :=
 Aj Tryz.f63 1 0 X_f2q (fun x => [esl_TIn x]) fun l => (dsl_TIn (at_ l 0))
def tt_f2q (x : X_f2q) : TT Tryz.prog R_f2q :=
 (.ite (Bu 256 ((x.n : Nat) : Int))
 (.ret false)
 (.call con_fh (x, x) fun (y1 : R_fh) =>
 (.ret (!y1))))
theorem sd_f2q (x : X_f2q) : (tt_f2q x).AH :=
 (TT.sI TT.sR (TT.sC fun _ => TT.sR))
def D_f2q : AV X_f2q R_f2q := .of tt_f2q
def con_f2q : BC Tryz.prog :=
 CH 63 J_f2q S_f2q D_f2q 1 0 [hsl_TIn] (lk mxk lbn sd_f2q)
abbrev X_fl : Type := (Sl TIn) × TTh
abbrev R_fl : Type := Bool
def J_fl : BH Tryz.prog :=
 BR Tryz.prog Tryz.f36 88 [(3, 3), (62, 1)] [] [] [] [.any] [] [con_f2q] R_fl [] fun y => [V.bool y]
def S_fl : AR :=
 Aj Tryz.f36 2 0 X_fl (fun x => [esl_TIn x.1, e_TTh x.2]) fun l => (dsl_TIn (at_ l 0), d_TTh (at_ l 1))
structure X_fl_3 where
 Fb : (Sl TIn)
 Dx : TTh
def S_fl_3 : AR :=
 Ak Tryz.f36 3 [(0, hsl_TIn), (3, .any)] [] [] X_fl_3 (fun x => [esl_TIn x.Fb, (DQ e_TTh) x.Dx]) fun l => ⟨dsl_TIn (at_ l 0), (DR d_TTh) (at_ l 1)⟩
structure X_fl_7 where
 Fb : (Sl TIn)
 Dx : TTh
def S_fl_7 : AR :=
 Ak Tryz.f36 7 [(0, hsl_TIn), (3, .any)] [] [] X_fl_7 (fun x => [esl_TIn x.Fb, (DQ e_TTh) x.Dx]) fun l => ⟨dsl_TIn (at_ l 0), (DR d_TTh) (at_ l 1)⟩
def tt_fl_7 (x : X_fl_7) : TT Tryz.prog R_fl :=
 (.need (BA x.Dx.At x.Fb.n) <|
 (.need (BA (IntKind.i64.wrap (x.Dx.Phase - 1)) 2) <|
 (.ite (Ad (x.Fb.get (Int.toNat x.Dx.At)).Op (cond (Nat.beq (Int.toNat (IntKind.i64.wrap (x.Dx.Phase - 1))) 0) (18 : Int) (19 : Int)))
 (.ite (Ad (x.Fb.get (Int.toNat x.Dx.At)).C x.Dx.Ring)
 (.ret (Bu x.Dx.AJ 4611686018427387904))
 (.ret false))
 (.ret false))))
theorem sd_fl_7 (x : X_fl_7) : (tt_fl_7 x).AH :=
 (TT.sN (TT.sN (TT.sI (TT.sI TT.sR TT.sR) TT.sR)))
def D_fl_7 : AV X_fl_7 R_fl := .of tt_fl_7
theorem ok_fl_7 : AZ J_fl S_fl_7 D_fl_7 :=
 lk mxk lbn sd_fl_7
def tt_fl_3 (x : X_fl_3) : TT Tryz.prog R_fl :=
 (.ite (Ad x.Dx.Phase 0)
 (.ite (Ad x.Dx.Ring 0)
 (.ret (Ad x.Dx.AJ 0))
 (.ret false))
 (.ite (!(Ad x.Dx.Status 0))
 (.ret false)
 (.ite (Ad x.Dx.At ((x.Fb.n : Nat) : Int))
 (.ret false)
 (.Ac S_fl_7 D_fl_7 (X_fl_7.mk x.Fb x.Dx)))))
theorem sd_fl_3 (x : X_fl_3) : (tt_fl_3 x).AH :=
 (TT.sI (TT.sI TT.sR TT.sR) (TT.sI TT.sR (TT.sI TT.sR TT.sJ)))
def D_fl_3 : AV X_fl_3 R_fl := .of tt_fl_3
theorem ok_fl_3 : AZ J_fl S_fl_3 D_fl_3 :=
 lk mxk (lbc ok_fl_7 rfl lbn) sd_fl_3
def tt_fl (x : X_fl) : TT Tryz.prog R_fl :=
 (.call con_f2q x.fst fun (y1 : R_f2q) =>
 (.ite (!y1)
 (.ret false)
 (.ite (Bu x.snd.At 0)
 (.ret false)
 (.ite (Bu ((x.fst.n : Nat) : Int) x.snd.At)
 (.ret false)
 (.ite (Bu x.snd.Status 0)
 (.ret false)
 (.ite (Bu 2 x.snd.Status)
 (.ret false)
 (.ite (Bu x.snd.Phase 0)
 (.ret false)
 (.ite (Bu 2 x.snd.Phase)
 (.ret false)
 (.Ac S_fl_3 D_fl_3 (X_fl_3.mk x.fst x.snd))))))))))
theorem sd_fl (x : X_fl) : (tt_fl x).AH :=
 (TT.sC fun _ => (TT.sI TT.sR (TT.sI TT.sR (TT.sI TT.sR (TT.sI TT.sR (TT.sI TT.sR (TT.sI TT.sR (TT.sI TT.sR TT.sJ))))))))
def D_fl : AV X_fl R_fl := .of tt_fl
def con_fl : BC Tryz.prog :=
 CH 36 J_fl S_fl D_fl 2 0 [hsl_TIn, sh_TTh] (lk mxk (lbc ok_fl_7 rfl (lbc ok_fl_3 rfl lbn)) sd_fl)
abbrev X_f2w : Type := Int
abbrev R_f2w : Type := Bool
def J_f2w : BH Tryz.prog :=
 BR Tryz.prog Tryz.f100 9 [] [] [] [] [.any] [] [] R_f2w [] fun y => [V.bool y]
def S_f2w : AR :=
 Aj Tryz.f100 1 0 X_f2w (fun x => [(V.int .i64) x]) fun l => (dI (at_ l 0))
def tt_f2w (x : X_f2w) : TT Tryz.prog R_f2w :=
 (.ite (Bh 18 x)
 (.ret (Bh x 25))
 (.ret false))
theorem sd_f2w (x : X_f2w) : (tt_f2w x).AH :=
 (TT.sI TT.sR TT.sR)
def D_f2w : AV X_f2w R_f2w := .of tt_f2w
def con_f2w : BC Tryz.prog :=
 CH 100 J_f2w S_f2w D_f2w 1 0 [.any] (lk mxk lbn sd_f2w)
abbrev X_f2i : Type := Int × Int
abbrev R_f2i : Type := Int
def J_f2i : BH Tryz.prog :=
 BR Tryz.prog Tryz.f110 10 [] [] [] [] [.any] [] [] R_f2i [] fun y => [(V.int .u64) y]
def S_f2i : AR :=
 Aj Tryz.f110 2 0 X_f2i (fun x => [(V.int .u64) x.1, (V.int .u64) x.2]) fun l => (dI (at_ l 0), dI (at_ l 1))
def tt_f2i (x : X_f2i) : TT Tryz.prog R_f2i :=
 (.ite (Ad x.snd 0)
 (.ret 0)
 (.need (!(Ad x.snd 0)) <|
 (.ret (IntKind.u64.wrap (Int.tdiv x.fst x.snd)))))
theorem sd_f2i (x : X_f2i) : (tt_f2i x).AH :=
 (TT.sI TT.sR (TT.sN TT.sR))
def D_f2i : AV X_f2i R_f2i := .of tt_f2i
def con_f2i : BC Tryz.prog :=
 CH 110 J_f2i S_f2i D_f2i 2 0 [.any, .any] (lk mxk lbn sd_f2i)
abbrev X_f31 : Type := Int × Int
abbrev R_f31 : Type := Int
def J_f31 : BH Tryz.prog :=
 BR Tryz.prog Tryz.f111 10 [] [] [] [] [.any] [] [] R_f31 [] fun y => [(V.int .u64) y]
def S_f31 : AR :=
 Aj Tryz.f111 2 0 X_f31 (fun x => [(V.int .u64) x.1, (V.int .u64) x.2]) fun l => (dI (at_ l 0), dI (at_ l 1))
def tt_f31 (x : X_f31) : TT Tryz.prog R_f31 :=
 (.ite (Ad x.snd 0)
 (.ret 0)
 (.need (!(Ad x.snd 0)) <|
 (.ret (Int.tmod x.fst x.snd))))
theorem sd_f31 (x : X_f31) : (tt_f31 x).AH :=
 (TT.sI TT.sR (TT.sN TT.sR))
def D_f31 : AV X_f31 R_f31 := .of tt_f31
def con_f31 : BC Tryz.prog :=
 CH 111 J_f31 S_f31 D_f31 2 0 [.any, .any] (lk mxk lbn sd_f31)
abbrev X_f34 : Type := Bool
abbrev R_f34 : Type := Int
def J_f34 : BH Tryz.prog :=
 BR Tryz.prog Tryz.f112 4 [] [] [] [] [.any] [] [] R_f34 [] fun y => [(V.int .u64) y]
def S_f34 : AR :=
 Aj Tryz.f112 1 0 X_f34 (fun x => [V.bool x]) fun l => (dB (at_ l 0))
def tt_f34 (x : X_f34) : TT Tryz.prog R_f34 :=
 (.ite x
 (.ret 1)
 (.ret 0))
theorem sd_f34 (x : X_f34) : (tt_f34 x).AH :=
 (TT.sI TT.sR TT.sR)
def D_f34 : AV X_f34 R_f34 := .of tt_f34
def con_f34 : BC Tryz.prog :=
 CH 112 J_f34 S_f34 D_f34 1 0 [.any] (lk mxk lbn sd_f34)
abbrev X_f36 : Type := Int × Int × Int
abbrev R_f36 : Type := Int × Bool
def J_f36 : BH Tryz.prog :=
 BR Tryz.prog Tryz.f109 73 [] [] [] [] [.any, .any] [] [con_f34, con_f2i, con_f31] R_f36 [] fun y => [V.CG (V.cons ((V.int .u64) y.1) (V.cons (V.bool y.2) (V.unit)))]
def S_f36 : AR :=
 Aj Tryz.f109 3 0 X_f36 (fun x => [(V.int .i64) x.1, (V.int .u64) x.2.1, (V.int .u64) x.2.2]) fun l => (dI (at_ l 0), dI (at_ l 1), dI (at_ l 2))
def tt_f36 (x : X_f36) : TT Tryz.prog R_f36 :=
 (.ite (Ad x.fst 3)
 (.ret ((IntKind.u64.wrap (x.snd.fst + x.snd.snd)), true))
 (.ite (Ad x.fst 4)
 (.ret ((IntKind.u64.wrap (x.snd.fst - x.snd.snd)), true))
 (.ite (Ad x.fst 5)
 (.ret ((IntKind.u64.wrap (x.snd.fst * x.snd.snd)), true))
 (.ite (Ad x.fst 6)
 (.call con_f2i x.snd fun (y1 : R_f2i) =>
 (.ret (y1, true)))
 (.ite (Ad x.fst 7)
 (.call con_f31 x.snd fun (y1 : R_f31) =>
 (.ret (y1, true)))
 (.ite (Ad x.fst 8)
 (.ret ((Vm.bits .and IntKind.u64 x.snd.fst x.snd.snd), true))
 (.ite (Ad x.fst 9)
 (.ret ((Vm.bits .or IntKind.u64 x.snd.fst x.snd.snd), true))
 (.ite (Ad x.fst 10)
 (.ret ((Vm.bits .xor IntKind.u64 x.snd.fst x.snd.snd), true))
 (.ite (Ad x.fst 11)
 (.ret ((shl IntKind.u64 x.snd.fst (Vm.bits .and IntKind.u64 x.snd.snd 63)), true))
 (.ite (Ad x.fst 12)
 (.ret ((shr IntKind.u64 x.snd.fst (Vm.bits .and IntKind.u64 x.snd.snd 63)), true))
 (.ite (Ad x.fst 13)
 (.call con_f34 (Bu x.snd.fst x.snd.snd) fun (y1 : R_f34) =>
 (.ret (y1, true)))
 (.ite (Ad x.fst 14)
 (.call con_f34 (Ad x.snd.fst x.snd.snd) fun (y1 : R_f34) =>
 (.ret (y1, true)))
 (.ret (0, false))))))))))))))
theorem sd_f36 (x : X_f36) : (tt_f36 x).AH :=
 (TT.sI TT.sR (TT.sI TT.sR (TT.sI TT.sR (TT.sI (TT.sC fun _ => TT.sR) (TT.sI (TT.sC fun _ => TT.sR) (TT.sI TT.sR (TT.sI TT.sR (TT.sI TT.sR (TT.sI TT.sR (TT.sI TT.sR (TT.sI (TT.sC fun _ => TT.sR) (TT.sI (TT.sC fun _ => TT.sR) TT.sR))))))))))))
def D_f36 : AV X_f36 R_f36 := .of tt_f36
def con_f36 : BC Tryz.prog :=
 CH 109 J_f36 S_f36 D_f36 3 0 [.any, .any, .any] (lk mxk lbn sd_f36)
abbrev Ml : Type := (Sl Int)
def CO : Ml → V := (MY (some 36) 1 (V.int .u64))
def Fy : V → Ml := (LW dI)
def MI : Sh := (.sl (some 36) 1 (V.int .u64 0))
def e_TTh_6 (x : TTh) : V :=
 V.cons ((V.int .i64) x.At) (V.cons ((V.int .i64) x.Phase) (V.cons ((V.int .i64) x.Ring) (V.cons ((V.int .i64) x.Status) (V.cons ((V.int .u64) x.AJ) (V.cons ((Fw 1 8 (V.int .u64)) x.Ao) (V.cons (CO x.Seen) (V.unit)))))))
theorem nu_e_TTh_6 (x : TTh) : (e_TTh_6 x).CB := ⟨trivial, trivial, trivial, trivial, trivial, (fun _ _ => trivial : ∀ y, ((Fw 1 8 (V.int .u64)) y).CB) x.Ao, trivial, trivial⟩
def sh_TTh_6 : Sh := (.cons .any (.cons .any (.cons .any (.cons .any (.cons .any (.cons .any (.cons MI .any)))))))
abbrev X_f2d : Type := TIn × TTh
abbrev R_f2d : Type := TTh
def J_f2d : BH Tryz.prog :=
 BR Tryz.prog Tryz.f101 90 [(2, 3), (17, 1)] [] [] [] [] [sh_TTh_6] [con_f36] R_f2d [] fun y => [V.CG (V.unit), e_TTh_6 y]
def S_f2d : AR :=
 Aj Tryz.f101 2 1 X_f2d (fun x => [e_TIn x.1, (V.ptr (.par 0) []), e_TTh_6 x.2]) fun l => (d_TIn (at_ l 0), d_TTh (at_ l 2))
def tt_f2d (x : X_f2d) : TT Tryz.prog R_f2d :=
 (.ite (Ad x.fst.Op 1)
 (.need (BA x.fst.A 8) <|
 (.ret (TTh.mk (IntKind.i64.wrap (x.snd.At + 1)) x.snd.Phase x.snd.Ring x.snd.Status x.snd.AJ (fun i1 => (cond (Nat.beq i1 (Int.toNat x.fst.A)) x.fst.K (x.snd.Ao i1))) x.snd.Seen)))
 (.ite (Ad x.fst.Op 2)
 (.need (BA x.fst.B 8) <|
 (.need (BA x.fst.A 8) <|
 (.ret (TTh.mk (IntKind.i64.wrap (x.snd.At + 1)) x.snd.Phase x.snd.Ring x.snd.Status x.snd.AJ (fun i1 => (cond (Nat.beq i1 (Int.toNat x.fst.A)) (x.snd.Ao (Int.toNat x.fst.B)) (x.snd.Ao i1))) x.snd.Seen))))
 (.ite (Ad x.fst.Op 15)
 (.ret (TTh.mk (IntKind.i64.wrap x.fst.K) x.snd.Phase x.snd.Ring x.snd.Status x.snd.AJ x.snd.Ao x.snd.Seen))
 (.ite (Ad x.fst.Op 16)
 (.need (BA x.fst.A 8) <|
 (.ite ((Ad (x.snd.Ao (Int.toNat x.fst.A)) 0) == (Ad x.fst.Op 16))
 (.ret (TTh.mk (IntKind.i64.wrap x.fst.K) x.snd.Phase x.snd.Ring x.snd.Status x.snd.AJ x.snd.Ao x.snd.Seen))
 (.ret (TTh.mk (IntKind.i64.wrap (x.snd.At + 1)) x.snd.Phase x.snd.Ring x.snd.Status x.snd.AJ x.snd.Ao x.snd.Seen))))
 (.ite (Ad x.fst.Op 17)
 (.need (BA x.fst.A 8) <|
 (.ite ((Ad (x.snd.Ao (Int.toNat x.fst.A)) 0) == (Ad x.fst.Op 16))
 (.ret (TTh.mk (IntKind.i64.wrap x.fst.K) x.snd.Phase x.snd.Ring x.snd.Status x.snd.AJ x.snd.Ao x.snd.Seen))
 (.ret (TTh.mk (IntKind.i64.wrap (x.snd.At + 1)) x.snd.Phase x.snd.Ring x.snd.Status x.snd.AJ x.snd.Ao x.snd.Seen))))
 (.need (BA x.fst.B 8) <|
 (.need (BA x.fst.C 8) <|
 (.call con_f36 (x.fst.Op, ((x.snd.Ao (Int.toNat x.fst.B)), (x.snd.Ao (Int.toNat x.fst.C)))) fun (y1 : R_f36) =>
 (.need (BA x.fst.A 8) <|
 (.ret (TTh.mk (IntKind.i64.wrap (x.snd.At + 1)) x.snd.Phase x.snd.Ring x.snd.Status x.snd.AJ (fun i2 => (cond (Nat.beq i2 (Int.toNat x.fst.A)) y1.fst (x.snd.Ao i2))) x.snd.Seen)))))))))))
theorem sd_f2d (x : X_f2d) : (tt_f2d x).AH :=
 (TT.sI (TT.sN TT.sR) (TT.sI (TT.sN (TT.sN TT.sR)) (TT.sI TT.sR (TT.sI (TT.sN (TT.sI TT.sR TT.sR)) (TT.sI (TT.sN (TT.sI TT.sR TT.sR)) (TT.sN (TT.sN (TT.sC fun _ => (TT.sN TT.sR)))))))))
def D_f2d : AV X_f2d R_f2d := .of tt_f2d
def con_f2d : BC Tryz.prog :=
 CH 101 J_f2d S_f2d D_f2d 2 1 [.any, .any] (lk mxk lbn sd_f2d)
structure TAk where
 Kind : Int
 Ring : Int
 Mode : Int
 Reader : Int
 AJ : Int
 Value : Int
def d_TAk (v : V) : TAk :=
 ⟨dI (fd v 0), dI (fd v 1), dI (fd v 2), dI (fd v 3), dI (fd v 4), dI (fd v 5)⟩
def e_TAk (x : TAk) : V :=
 V.cons ((V.int .i64) x.Kind) (V.cons ((V.int .i64) x.Ring) (V.cons ((V.int .i64) x.Mode) (V.cons ((V.int .i64) x.Reader) (V.cons ((V.int .u64) x.AJ) (V.cons ((V.int .u64) x.Value) (V.unit))))))
theorem nu_e_TAk (x : TAk) : (e_TAk x).CB := ⟨trivial, trivial, trivial, trivial, trivial, trivial, trivial⟩
abbrev X_f2r : Type := TIn × TTh
abbrev R_f2r : Type := TAk
def J_f2r : BH Tryz.prog :=
 BR Tryz.prog Tryz.f103 52 [(2, 3), (3, 3)] [] [] [] [.any] [] [] R_f2r [] fun y => [e_TAk y]
def S_f2r : AR :=
 Aj Tryz.f103 2 0 X_f2r (fun x => [e_TIn x.1, e_TTh x.2]) fun l => (d_TIn (at_ l 0), d_TTh (at_ l 1))
def tt_f2r (x : X_f2r) : TT Tryz.prog R_f2r :=
 (.ite (Ad x.fst.Op 18)
 (.need (BA x.fst.A 8) <|
 (.ret (TAk.mk 1 x.fst.C x.fst.D 0 0 (x.snd.Ao (Int.toNat x.fst.A)))))
 (.ite (Ad x.fst.Op 19)
 (.ret (TAk.mk 2 x.fst.C x.fst.D (IntKind.i64.wrap x.fst.K) 0 0))
 (.ite (Ad x.fst.Op 20)
 (.ret (TAk.mk 3 x.fst.C 0 0 0 0))
 (.ite (Ad x.fst.Op 21)
 (.ret (TAk.mk 4 0 0 0 0 0))
 (.ite (Ad x.fst.Op 22)
 (.ret (TAk.mk 5 0 0 0 0 0))
 (.ite (Ad x.fst.Op 23)
 (.ret (TAk.mk 6 0 0 0 0 0))
 (.ite (Ad x.fst.Op 24)
 (.need (BA x.fst.A 8) <|
 (.ret (TAk.mk 7 0 0 0 0 (x.snd.Ao (Int.toNat x.fst.A)))))
 (.ret (TAk.mk 8 0 0 0 0 0)))))))))
theorem sd_f2r (x : X_f2r) : (tt_f2r x).AH :=
 (TT.sI (TT.sN TT.sR) (TT.sI TT.sR (TT.sI TT.sR (TT.sI TT.sR (TT.sI TT.sR (TT.sI TT.sR (TT.sI (TT.sN TT.sR) TT.sR)))))))
def D_f2r : AV X_f2r R_f2r := .of tt_f2r
def con_f2r : BC Tryz.prog :=
 CH 103 J_f2r S_f2r D_f2r 2 0 [.any, sh_TTh] (lk mxk lbn sd_f2r)
abbrev X_fa : Type := (Sl TIn) × TTh
abbrev R_fa : Type := TTh × TAk
def J_fa : BH Tryz.prog :=
 BR Tryz.prog Tryz.f78 97 [(10, 1), (16, 1), (21, 1), (35, 1), (40, 1), (77, 1), (87, 1), (89, 1), (90, 1)] [] [] [] [sh_TTh_6, .any] [] [con_f2l, con_f2w, con_f2r, con_f2d] R_fa [] fun y => [V.CG (V.cons (e_TTh_6 y.1) (V.cons (e_TAk y.2) (V.unit)))]
def S_fa : AR :=
 Aj Tryz.f78 2 0 X_fa (fun x => [esl_TIn x.1, e_TTh_6 x.2]) fun l => (dsl_TIn (at_ l 0), d_TTh (at_ l 1))
structure X_fa_8 where
 Fb : (Sl TIn)
 I7 : Int
 C4 : TTh
 Ov : TTh
 E3 : TAk
def S_fa_8 : AR :=
 Ak Tryz.f78 8 [(0, hsl_TIn), (3, .any), (4, .any), (5, .any), (48, .any)] [] [(.loc 3 0, sh_TTh_6), (.loc 4 0, sh_TTh_6), (.loc 5 0, .any)] X_fa_8 (fun x => [esl_TIn x.Fb, (V.ptr (.loc 3 0) []), (V.ptr (.loc 4 0) []), (V.ptr (.loc 5 0) []), (V.int .i64) x.I7, e_TTh_6 x.C4, e_TTh_6 x.Ov, e_TAk x.E3]) fun l => ⟨dsl_TIn (at_ l 0), dI (at_ l 4), d_TTh (at_ l 5), d_TTh (at_ l 6), d_TAk (at_ l 7)⟩
structure X_fa_10 where
 Fb : (Sl TIn)
 I7 : Int
 C4 : TTh
 Ov : TTh
 E3 : TAk
def S_fa_10 : AR :=
 Ak Tryz.f78 10 [(0, hsl_TIn), (3, .any), (4, .any), (5, .any), (48, .any)] [] [(.loc 3 0, sh_TTh_6), (.loc 4 0, sh_TTh_6), (.loc 5 0, .any)] X_fa_10 (fun x => [esl_TIn x.Fb, (V.ptr (.loc 3 0) []), (V.ptr (.loc 4 0) []), (V.ptr (.loc 5 0) []), (V.int .i64) x.I7, e_TTh_6 x.C4, e_TTh_6 x.Ov, e_TAk x.E3]) fun l => ⟨dsl_TIn (at_ l 0), dI (at_ l 4), d_TTh (at_ l 5), d_TTh (at_ l 6), d_TAk (at_ l 7)⟩
structure X_fa_11 where
 Fb : (Sl TIn)
 I7 : Int
 C4 : TTh
 Ov : TTh
 E3 : TAk
def S_fa_11 : AR :=
 Ak Tryz.f78 11 [(0, hsl_TIn), (3, .any), (4, .any), (5, .any), (48, .any)] [] [(.loc 3 0, sh_TTh_6), (.loc 4 0, sh_TTh_6), (.loc 5 0, .any)] X_fa_11 (fun x => [esl_TIn x.Fb, (V.ptr (.loc 3 0) []), (V.ptr (.loc 4 0) []), (V.ptr (.loc 5 0) []), (V.int .i64) x.I7, e_TTh_6 x.C4, e_TTh_6 x.Ov, e_TAk x.E3]) fun l => ⟨dsl_TIn (at_ l 0), dI (at_ l 4), d_TTh (at_ l 5), d_TTh (at_ l 6), d_TAk (at_ l 7)⟩
structure X_fa_12 where
 Fb : (Sl TIn)
 C4 : TTh
 Ov : TTh
 E3 : TAk
def S_fa_12 : AR :=
 Ak Tryz.f78 12 [(0, hsl_TIn), (3, .any), (4, .any), (5, .any)] [] [(.loc 3 0, sh_TTh_6), (.loc 4 0, sh_TTh_6), (.loc 5 0, .any)] X_fa_12 (fun x => [esl_TIn x.Fb, (V.ptr (.loc 3 0) []), (V.ptr (.loc 4 0) []), (V.ptr (.loc 5 0) []), e_TTh_6 x.C4, e_TTh_6 x.Ov, e_TAk x.E3]) fun l => ⟨dsl_TIn (at_ l 0), d_TTh (at_ l 4), d_TTh (at_ l 5), d_TAk (at_ l 6)⟩
def tt_fa_12 (x : X_fa_12) : TT Tryz.prog R_fa :=
 (.ite (Ad x.C4.At ((x.Fb.n : Nat) : Int))
 (.ret (x.C4, (TAk.mk 8 0 0 0 0 0)))
 (.need (BA x.C4.At x.Fb.n) <|
 (.call con_f2l (x.Fb.get (Int.toNat x.C4.At)).Op fun (y1 : R_f2l) =>
 (.ite y1
 (.ret (x.C4, (TAk.mk 9 0 0 0 0 0)))
 (.need (BA x.C4.At x.Fb.n) <|
 (.call con_f2r ((x.Fb.get (Int.toNat x.C4.At)), x.C4) fun (y2 : R_f2r) =>
 (.ret (x.C4, y2))))))))
theorem sd_fa_12 (x : X_fa_12) : (tt_fa_12 x).AH :=
 (TT.sI TT.sR (TT.sN (TT.sC fun _ => (TT.sI TT.sR (TT.sN (TT.sC fun _ => TT.sR))))))
def D_fa_12 : AV X_fa_12 R_fa := .of tt_fa_12
theorem ok_fa_12 : AZ J_fa S_fa_12 D_fa_12 :=
 lk mxk lbn sd_fa_12
def tt_fa_11 (D_fa_8 : AV X_fa_8 R_fa) (x : X_fa_11) : TT Tryz.prog R_fa :=
 (.Ac S_fa_8 D_fa_8 (X_fa_8.mk x.Fb (IntKind.i64.wrap (x.I7 + 1)) x.C4 x.Ov x.E3))
theorem sd_fa_11 (D_fa_8 : AV X_fa_8 R_fa) (x : X_fa_11) : (tt_fa_11 D_fa_8 x).AH :=
 TT.sJ
def D_fa_11 (D_fa_8 : AV X_fa_8 R_fa) : AV X_fa_11 R_fa := .of (tt_fa_11 D_fa_8)
theorem ok_fa_11 (D_fa_8 : AV X_fa_8 R_fa) (h_8 : AZ J_fa S_fa_8 D_fa_8) : AZ J_fa S_fa_11 (D_fa_11 D_fa_8) :=
 lk mxk (lbc h_8 rfl (lbc ok_fa_12 rfl lbn)) (sd_fa_11 D_fa_8)
def tt_fa_10 (D_fa_8 : AV X_fa_8 R_fa) (x : X_fa_10) : TT Tryz.prog R_fa :=
 (.need (BA x.C4.At x.Fb.n) <|
 (.call con_f2d ((x.Fb.get (Int.toNat x.C4.At)), x.C4) fun (y2 : R_f2d) =>
 (.Ac S_fa_11 (D_fa_11 D_fa_8) (X_fa_11.mk x.Fb x.I7 y2 x.Ov x.E3))))
theorem sd_fa_10 (D_fa_8 : AV X_fa_8 R_fa) (x : X_fa_10) : (tt_fa_10 D_fa_8 x).AH :=
 (TT.sN (TT.sC fun _ => TT.sJ))
def D_fa_10 (D_fa_8 : AV X_fa_8 R_fa) : AV X_fa_10 R_fa := .of (tt_fa_10 D_fa_8)
theorem ok_fa_10 (D_fa_8 : AV X_fa_8 R_fa) (h_8 : AZ J_fa S_fa_8 D_fa_8) : AZ J_fa S_fa_10 (D_fa_10 D_fa_8) :=
 lk mxk (lbc h_8 rfl (lbc ok_fa_12 rfl (lbc (ok_fa_11 D_fa_8 h_8) rfl lbn))) (sd_fa_10 D_fa_8)
def tt_fa_8 (D_fa_8 : AV X_fa_8 R_fa) (x : X_fa_8) : TT Tryz.prog R_fa :=
 (.ite (Bu x.I7 256)
 (.ite (Ad x.C4.At ((x.Fb.n : Nat) : Int))
 (.Ac S_fa_12 D_fa_12 (X_fa_12.mk x.Fb x.C4 x.Ov x.E3))
 (.need (BA x.C4.At x.Fb.n) <|
 (.call con_f2w (x.Fb.get (Int.toNat x.C4.At)).Op fun (y2 : R_f2w) =>
 (.ite y2
 (.Ac S_fa_12 D_fa_12 (X_fa_12.mk x.Fb x.C4 x.Ov x.E3))
 (.Ac S_fa_10 (D_fa_10 D_fa_8) (X_fa_10.mk x.Fb x.I7 x.C4 x.Ov x.E3))))))
 (.Ac S_fa_12 D_fa_12 (X_fa_12.mk x.Fb x.C4 x.Ov x.E3)))
theorem sd_fa_8 (D_fa_8 : AV X_fa_8 R_fa) (x : X_fa_8) : (tt_fa_8 D_fa_8 x).AH :=
 (TT.sI (TT.sI TT.sJ (TT.sN (TT.sC fun _ => (TT.sI TT.sJ TT.sJ)))) TT.sJ)
def D_fa_8 : AV X_fa_8 R_fa := AV.loop tt_fa_8
theorem ok_fa_8 : AZ J_fa S_fa_8 D_fa_8 :=
 BF fun D_fa_8 h_8 => lk mxk (lbc h_8 rfl (lbc ok_fa_12 rfl (lbc (ok_fa_11 D_fa_8 h_8) rfl (lbc (ok_fa_10 D_fa_8 h_8) rfl lbn)))) (sd_fa_8 D_fa_8)
def tt_fa (x : X_fa) : TT Tryz.prog R_fa :=
 (.ite (!(Ad x.snd.Status 0))
 (.ret (x.snd, (TAk.mk 0 0 0 0 0 0)))
 (.ite (Ad x.snd.Phase 1)
 (.need (BA x.snd.At x.fst.n) <|
 (.need (BA (x.fst.get (Int.toNat x.snd.At)).A 8) <|
 (.ret (x.snd, (TAk.mk 10 x.snd.Ring 0 0 x.snd.AJ (x.snd.Ao (Int.toNat (x.fst.get (Int.toNat x.snd.At)).A)))))))
 (.ite (Ad x.snd.Phase 2)
 (.need (BA x.snd.At x.fst.n) <|
 (.ret (x.snd, (TAk.mk 11 x.snd.Ring 0 (IntKind.i64.wrap (x.fst.get (Int.toNat x.snd.At)).K) x.snd.AJ 0))))
 (.Ac S_fa_8 D_fa_8 (X_fa_8.mk x.fst 0 x.snd (TTh.mk 0 0 0 0 0 (fun _i1 => (0 : Int)) (Sl.mk true 0 (fun _i1 => (0 : Int)))) (TAk.mk 0 0 0 0 0 0))))))
theorem sd_fa (x : X_fa) : (tt_fa x).AH :=
 (TT.sI TT.sR (TT.sI (TT.sN (TT.sN TT.sR)) (TT.sI (TT.sN TT.sR) TT.sJ)))
def D_fa : AV X_fa R_fa := .of tt_fa
def con_fa : BC Tryz.prog :=
 CH 78 J_fa S_fa D_fa 2 0 [hsl_TIn, sh_TTh_6] (lk mxk (lbc ok_fa_12 rfl (lbc ok_fa_8 rfl lbn)) sd_fa)
end Go.Proofs.YtlhifcnjnmeknaaGreat
end
