/- What functions of the program come to, part A: no statement is proved here. -/
import Derived.Test.YtlhifcnjnmeknaaGreatDoorM
import Derived.Test.YtlhifcnjnmeknaaGreatDoorProg
import Derived.KernelRfl
noncomputable section
namespace Go.Proofs.YtlhifcnjnmeknaaGreatDoor
open Go Go.Vm Go.Proofs
set_option maxRecDepth 100000
theorem mxk : Tryz.prog.follows .mixedOrders = true := by kernel_rfl
def d_TRg (v : V) : TRg :=
 ⟨dI (fd v 0), dI (fd v 1), dI (fd v 2)⟩
def e_TRg (x : TRg) : V :=
 V.cons ((V.int .i64) x.Kind) (V.cons ((V.int .i64) x.Cf) (V.cons ((V.int .i64) x.AQ) (V.unit)))
theorem nu_e_TRg (x : TRg) : (e_TRg x).CU := ⟨trivial, trivial, trivial, trivial⟩
abbrev Dsl_TRg : Type := (Sl TRg)
def esl_TRg : Dsl_TRg → V := (Kn none 3 e_TRg)
def dsl_TRg : V → Dsl_TRg := (K5 d_TRg)
def hsl_TRg : Sh := (.sl none 3 (e_TRg (d_TRg .undef)))
def d_TIn (v : V) : TIn :=
 ⟨dI (fd v 0), dI (fd v 1), dI (fd v 2), dI (fd v 3), dI (fd v 4), dI (fd v 5)⟩
def e_TIn (x : TIn) : V :=
 V.cons ((V.int .i64) x.Op) (V.cons ((V.int .i64) x.A) (V.cons ((V.int .i64) x.B) (V.cons ((V.int .i64) x.C) (V.cons ((V.int .i64) x.D) (V.cons ((V.int .u64) x.K) (V.unit))))))
theorem nu_e_TIn (x : TIn) : (e_TIn x).CU := ⟨trivial, trivial, trivial, trivial, trivial, trivial, trivial⟩
abbrev Dsl_TIn : Type := (Sl TIn)
def esl_TIn : Dsl_TIn → V := (Kn none 6 e_TIn)
def dsl_TIn : V → Dsl_TIn := (K5 d_TIn)
def hsl_TIn : Sh := (.sl none 6 (e_TIn (d_TIn .undef)))
abbrev Dsl_sl_TIn : Type := (Sl (Sl TIn))
def esl_sl_TIn : Dsl_sl_TIn → V := (Kn none 1 esl_TIn)
def dsl_sl_TIn : V → Dsl_sl_TIn := (K5 dsl_TIn)
def hsl_sl_TIn : Sh := (.sl none 1 (esl_TIn (dsl_TIn .undef)))
structure TPg where
 AJ : (Sl TRg)
 AB : (Sl (Sl TIn))
def d_TPg (v : V) : TPg :=
 ⟨dsl_TRg (fd v 0), dsl_sl_TIn (fd v 1)⟩
def e_TPg (x : TPg) : V :=
 V.cons (esl_TRg x.AJ) (V.cons (esl_sl_TIn x.AB) (V.unit))
theorem nu_e_TPg (x : TPg) : (e_TPg x).CU := ⟨trivial, trivial, trivial⟩
def sh_TPg : Sh := (.cons hsl_TRg (.cons hsl_sl_TIn .any))
abbrev X_f4e : Type := Unit
abbrev R_f4e : Type := TPg
def J_f4e : A8 Tryz.prog :=
 BD Tryz.prog Tryz.f35 6 [] [] [] [] [sh_TPg] [] [] R_f4e [] fun y => [e_TPg y]
def S_f4e : AM :=
 Ae Tryz.f35 0 0 X_f4e (fun x => []) fun l => ()
def tt_f4e (x : X_f4e) : TT Tryz.prog R_f4e :=
 (.ret (TPg.mk (Sl.mk true 0 (fun i1 => (TRg.mk 0 0 0))) (Sl.mk false 1 (fun i1 => (Sl.mk false 2 (fun i2 => (TIn.mk (cond (Nat.beq i2 0) (24 : Int) (25 : Int)) (cond (Nat.beq i2 0) (0 : Int) (0 : Int)) (cond (Nat.beq i2 0) (0 : Int) (0 : Int)) (cond (Nat.beq i2 0) (0 : Int) (0 : Int)) (cond (Nat.beq i2 0) (0 : Int) (0 : Int)) (cond (Nat.beq i2 0) (0 : Int) (0 : Int)))))))))
theorem sd_f4e (x : X_f4e) : (tt_f4e x).AH :=
 TT.sR
def D_f4e : AU X_f4e R_f4e := .of tt_f4e
def con_f4e : A3 Tryz.prog :=
 BS 35 J_f4e S_f4e D_f4e 0 0 [] (lk mxk lbn sd_f4e)
abbrev X_f26 : Type := TRg
abbrev R_f26 : Type := Bool
def J_f26 : A8 Tryz.prog :=
 BD Tryz.prog Tryz.f137 34 [(1, 3)] [] [] [] [.any] [] [] R_f26 [] fun y => [V.bool y]
def S_f26 : AM :=
 Ae Tryz.f137 1 0 X_f26 (fun x => [e_TRg x]) fun l => (d_TRg (at_ l 0))
structure X_f26_3 where
 Mh : TRg
def S_f26_3 : AM :=
 Ad Tryz.f137 3 [(1, .any)] [] [] X_f26_3 (fun x => [(C2 e_TRg) x.Mh]) fun l => ⟨(C3 d_TRg) (at_ l 0)⟩
def tt_f26_3 (x : X_f26_3) : TT Tryz.prog R_f26 :=
 (.ite (AX x.Mh.Kind 1)
 (.ite (AX x.Mh.AQ 1)
 (.ret true)
 (.ite (AX x.Mh.Kind 2)
 (.ite (BW 1 x.Mh.AQ)
 (.ret (BW x.Mh.AQ 8))
 (.ret false))
 (.ret false)))
 (.ite (AX x.Mh.Kind 2)
 (.ite (BW 1 x.Mh.AQ)
 (.ret (BW x.Mh.AQ 8))
 (.ret false))
 (.ret false)))
theorem sd_f26_3 (x : X_f26_3) : (tt_f26_3 x).AH :=
 (TT.sI (TT.sI TT.sR (TT.sI (TT.sI TT.sR TT.sR) TT.sR)) (TT.sI (TT.sI TT.sR TT.sR) TT.sR))
def D_f26_3 : AU X_f26_3 R_f26 := .of tt_f26_3
theorem ok_f26_3 : AW J_f26 S_f26_3 D_f26_3 :=
 lk mxk lbn sd_f26_3
def tt_f26 (x : X_f26) : TT Tryz.prog R_f26 :=
 (.ite (BR x.Cf 1)
 (.ret false)
 (.ite (BR 64 x.Cf)
 (.ret false)
 (.jump S_f26_3 D_f26_3 (X_f26_3.mk x))))
theorem sd_f26 (x : X_f26) : (tt_f26 x).AH :=
 (TT.sI TT.sR (TT.sI TT.sR TT.sJ))
def D_f26 : AU X_f26 R_f26 := .of tt_f26
def con_f26 : A3 Tryz.prog :=
 BS 137 J_f26 S_f26 D_f26 1 0 [.any] (lk mxk (lbc ok_f26_3 rfl lbn) sd_f26)
abbrev X_f3g : Type := Int
abbrev R_f3g : Type := Bool
def J_f3g : A8 Tryz.prog :=
 BD Tryz.prog Tryz.f180 9 [] [] [] [] [.any] [] [] R_f3g [] fun y => [V.bool y]
def S_f3g : AM :=
 Ae Tryz.f180 1 0 X_f3g (fun x => [(V.int .i64) x]) fun l => (dI (at_ l 0))
def tt_f3g (x : X_f3g) : TT Tryz.prog R_f3g :=
 (.ite (BW 1 x)
 (.ret (BW x 17))
 (.ret false))
theorem sd_f3g (x : X_f3g) : (tt_f3g x).AH :=
 (TT.sI TT.sR TT.sR)
def D_f3g : AU X_f3g R_f3g := .of tt_f3g
def con_f3g : A3 Tryz.prog :=
 BS 180 J_f3g S_f3g D_f3g 1 0 [.any] (lk mxk lbn sd_f3g)
structure TCl where
 a : Int
 b : Int
 c : Int
 d : Int
 k : Int
def d_TCl (v : V) : TCl :=
 ⟨dI (fd v 0), dI (fd v 1), dI (fd v 2), dI (fd v 3), dI (fd v 4)⟩
def e_TCl (x : TCl) : V :=
 V.cons ((V.int .i64) x.a) (V.cons ((V.int .i64) x.b) (V.cons ((V.int .i64) x.c) (V.cons ((V.int .i64) x.d) (V.cons ((V.int .u64) x.k) (V.unit)))))
theorem nu_e_TCl (x : TCl) : (e_TCl x).CU := ⟨trivial, trivial, trivial, trivial, trivial, trivial⟩
abbrev X_f25 : Type := Int
abbrev R_f25 : Type := TCl × Bool
def J_f25 : A8 Tryz.prog :=
 BD Tryz.prog Tryz.f195 39 [] [] [] [] [.any, .any] [] [con_f3g] R_f25 [] fun y => [V.B9 (V.cons (e_TCl y.1) (V.cons (V.bool y.2) (V.unit)))]
def S_f25 : AM :=
 Ae Tryz.f195 1 0 X_f25 (fun x => [(V.int .i64) x]) fun l => (dI (at_ l 0))
structure X_f25_24 where
 DJ : Int
 Ey : TCl
def S_f25_24 : AM :=
 Ad Tryz.f195 24 (an [0, 2]) [] [(.loc 2 0, .any)] X_f25_24 (fun x => [(V.int .i64) x.DJ, (V.ptr (.loc 2 0) []), e_TCl x.Ey]) fun l => ⟨dI (at_ l 0), d_TCl (at_ l 2)⟩
def tt_f25_24 (x : X_f25_24) : TT Tryz.prog R_f25 :=
 (.call con_f3g x.DJ fun (y1 : R_f3g) =>
 (.ret ((TCl.mk 7 7 7 0 0), y1)))
theorem sd_f25_24 (x : X_f25_24) : (tt_f25_24 x).AH :=
 (TT.sC fun _ => TT.sR)
def D_f25_24 : AU X_f25_24 R_f25 := .of tt_f25_24
theorem ok_f25_24 : AW J_f25 S_f25_24 D_f25_24 :=
 lk mxk lbn sd_f25_24
def tt_f25 (x : X_f25) : TT Tryz.prog R_f25 :=
 (.ite (AX x 1)
 (.ret ((TCl.mk 7 0 0 0 18446744073709551615), true))
 (.ite (AX x 2)
 (.ret ((TCl.mk 7 7 0 0 0), true))
 (.ite (AX x 23)
 (.ret ((TCl.mk 7 7 0 0 0), true))
 (.ite (AX x 15)
 (.ret ((TCl.mk 0 0 0 0 256), true))
 (.ite (AX x 16)
 (.ret ((TCl.mk 7 0 0 0 256), true))
 (.ite (AX x 17)
 (.ret ((TCl.mk 7 0 0 0 256), true))
 (.ite (AX x 18)
 (.ret ((TCl.mk 7 7 7 2 0), true))
 (.ite (AX x 19)
 (.ret ((TCl.mk 7 7 7 2 7), true))
 (.ite (AX x 20)
 (.ret ((TCl.mk 0 0 7 0 0), true))
 (.ite (AX x 21)
 (.ret ((TCl.mk 7 0 0 0 0), true))
 (.ite (AX x 22)
 (.ret ((TCl.mk 7 0 0 0 0), true))
 (.ite (AX x 24)
 (.ret ((TCl.mk 7 0 0 0 0), true))
 (.ite (AX x 25)
 (.ret ((TCl.mk 0 0 0 0 0), true))
 (.jump S_f25_24 D_f25_24 (X_f25_24.mk x (TCl.mk 0 0 0 0 0))))))))))))))))
theorem sd_f25 (x : X_f25) : (tt_f25 x).AH :=
 (TT.sI TT.sR (TT.sI TT.sR (TT.sI TT.sR (TT.sI TT.sR (TT.sI TT.sR (TT.sI TT.sR (TT.sI TT.sR (TT.sI TT.sR (TT.sI TT.sR (TT.sI TT.sR (TT.sI TT.sR (TT.sI TT.sR (TT.sI TT.sR TT.sJ)))))))))))))
def D_f25 : AU X_f25 R_f25 := .of tt_f25
def con_f25 : A3 Tryz.prog :=
 BS 195 J_f25 S_f25 D_f25 1 0 [.any] (lk mxk (lbc ok_f25_24 rfl lbn) sd_f25)
abbrev X_f3h : Type := TIn
abbrev R_f3h : Type := Bool
def J_f3h : A8 Tryz.prog :=
 BD Tryz.prog Tryz.f170 67 [(1, 3), (5, 1)] [] [] [] [.any] [] [con_f25] R_f3h [] fun y => [V.bool y]
def S_f3h : AM :=
 Ae Tryz.f170 1 0 X_f3h (fun x => [e_TIn x]) fun l => (d_TIn (at_ l 0))
def tt_f3h (x : X_f3h) : TT Tryz.prog R_f3h :=
 (.call con_f25 x.Op fun (y1 : R_f25) =>
 (.ite y1.snd
 (.ite (BW 0 x.A)
 (.ite (BW x.A y1.fst.a)
 (.ite (BW 0 x.B)
 (.ite (BW x.B y1.fst.b)
 (.ite (BW 0 x.C)
 (.ite (BW x.C y1.fst.c)
 (.ite (BW 0 x.D)
 (.ite (BW x.D y1.fst.d)
 (.ret (BW x.K y1.fst.k))
 (.ret false))
 (.ret false))
 (.ret false))
 (.ret false))
 (.ret false))
 (.ret false))
 (.ret false))
 (.ret false))
 (.ret false)))
theorem sd_f3h (x : X_f3h) : (tt_f3h x).AH :=
 (TT.sC fun _ => (TT.sI (TT.sI (TT.sI (TT.sI (TT.sI (TT.sI (TT.sI (TT.sI (TT.sI TT.sR TT.sR) TT.sR) TT.sR) TT.sR) TT.sR) TT.sR) TT.sR) TT.sR) TT.sR))
def D_f3h : AU X_f3h R_f3h := .of tt_f3h
def con_f3h : A3 Tryz.prog :=
 BS 170 J_f3h S_f3h D_f3h 1 0 [.any] (lk mxk lbn sd_f3h)
abbrev X_f3i : Type := TIn
abbrev R_f3i : Type := Bool
def J_f3i : A8 Tryz.prog :=
 BD Tryz.prog Tryz.f171 11 [(1, 3)] [] [] [] [.any] [] [] R_f3i [] fun y => [V.bool y]
def S_f3i : AM :=
 Ae Tryz.f171 1 0 X_f3i (fun x => [e_TIn x]) fun l => (d_TIn (at_ l 0))
def tt_f3i (x : X_f3i) : TT Tryz.prog R_f3i :=
 (.ite (BW 15 x.Op)
 (.ret (BW x.Op 17))
 (.ret false))
theorem sd_f3i (x : X_f3i) : (tt_f3i x).AH :=
 (TT.sI TT.sR TT.sR)
def D_f3i : AU X_f3i R_f3i := .of tt_f3i
def con_f3i : A3 Tryz.prog :=
 BS 171 J_f3i S_f3i D_f3i 1 0 [.any] (lk mxk lbn sd_f3i)
abbrev X_f3e : Type := Int
abbrev R_f3e : Type := Bool
def J_f3e : A8 Tryz.prog :=
 BD Tryz.prog Tryz.f172 13 [] [] [] [] [.any] [] [] R_f3e [] fun y => [V.bool y]
def S_f3e : AM :=
 Ae Tryz.f172 1 0 X_f3e (fun x => [(V.int .i64) x]) fun l => (dI (at_ l 0))
def tt_f3e (x : X_f3e) : TT Tryz.prog R_f3e :=
 (.ite (AX x 18)
 (.ret true)
 (.ite (AX x 19)
 (.ret true)
 (.ret (AX x 20))))
theorem sd_f3e (x : X_f3e) : (tt_f3e x).AH :=
 (TT.sI TT.sR (TT.sI TT.sR TT.sR))
def D_f3e : AU X_f3e R_f3e := .of tt_f3e
def con_f3e : A3 Tryz.prog :=
 BS 172 J_f3e S_f3e D_f3e 1 0 [.any] (lk mxk lbn sd_f3e)
abbrev X_f3l : Type := TPg × TIn × Int
abbrev R_f3l : Type := Int
def J_f3l : A8 Tryz.prog :=
 BD Tryz.prog Tryz.f138 50 [(3, 3), (4, 3)] [] [] [] [.any] [] [con_f3e, con_f3i, con_f3h] R_f3l [] fun y => [(V.int .i64) y]
def S_f3l : AM :=
 Ae Tryz.f138 3 0 X_f3l (fun x => [e_TPg x.1, e_TIn x.2.1, (V.int .i64) x.2.2]) fun l => (d_TPg (at_ l 0), d_TIn (at_ l 1), dI (at_ l 2))
def tt_f3l (x : X_f3l) : TT Tryz.prog R_f3l :=
 (.call con_f3h x.snd.fst fun (y1 : R_f3h) =>
 (.ite (!y1)
 (.ret 6)
 (.call con_f3i x.snd.fst fun (y2 : R_f3i) =>
 (.ite y2
 (.ite (BR (IntKind.u64.wrap x.snd.snd) x.snd.fst.K)
 (.ret 5)
 (.call con_f3e x.snd.fst.Op fun (y3 : R_f3e) =>
 (.ite y3
 (.ite (BW ((x.fst.AJ.n : Nat) : Int) x.snd.fst.C)
 (.ret 7)
 (.ite (AX x.snd.fst.Op 19)
 (.need (Az x.snd.fst.C x.fst.AJ.n) <|
 (.ite (BW (IntKind.u64.wrap (x.fst.AJ.get (Int.toNat x.snd.fst.C)).AQ) x.snd.fst.K)
 (.ret 7)
 (.ret 0)))
 (.ret 0)))
 (.ite (AX x.snd.fst.Op 19)
 (.need (Az x.snd.fst.C x.fst.AJ.n) <|
 (.ite (BW (IntKind.u64.wrap (x.fst.AJ.get (Int.toNat x.snd.fst.C)).AQ) x.snd.fst.K)
 (.ret 7)
 (.ret 0)))
 (.ret 0)))))
 (.call con_f3e x.snd.fst.Op fun (y3 : R_f3e) =>
 (.ite y3
 (.ite (BW ((x.fst.AJ.n : Nat) : Int) x.snd.fst.C)
 (.ret 7)
 (.ite (AX x.snd.fst.Op 19)
 (.need (Az x.snd.fst.C x.fst.AJ.n) <|
 (.ite (BW (IntKind.u64.wrap (x.fst.AJ.get (Int.toNat x.snd.fst.C)).AQ) x.snd.fst.K)
 (.ret 7)
 (.ret 0)))
 (.ret 0)))
 (.ite (AX x.snd.fst.Op 19)
 (.need (Az x.snd.fst.C x.fst.AJ.n) <|
 (.ite (BW (IntKind.u64.wrap (x.fst.AJ.get (Int.toNat x.snd.fst.C)).AQ) x.snd.fst.K)
 (.ret 7)
 (.ret 0)))
 (.ret 0))))))))
theorem sd_f3l (x : X_f3l) : (tt_f3l x).AH :=
 (TT.sC fun _ => (TT.sI TT.sR (TT.sC fun _ => (TT.sI (TT.sI TT.sR (TT.sC fun _ => (TT.sI (TT.sI TT.sR (TT.sI (TT.sN (TT.sI TT.sR TT.sR)) TT.sR)) (TT.sI (TT.sN (TT.sI TT.sR TT.sR)) TT.sR)))) (TT.sC fun _ => (TT.sI (TT.sI TT.sR (TT.sI (TT.sN (TT.sI TT.sR TT.sR)) TT.sR)) (TT.sI (TT.sN (TT.sI TT.sR TT.sR)) TT.sR)))))))
def D_f3l : AU X_f3l R_f3l := .of tt_f3l
def con_f3l : A3 Tryz.prog :=
 BS 138 J_f3l S_f3l D_f3l 3 0 [sh_TPg, .any, .any] (lk mxk lbn sd_f3l)
abbrev X_f3 : Type := TPg
abbrev R_f3 : Type := Int × Int × Int
def J_f3 : A8 Tryz.prog :=
 BD Tryz.prog Tryz.f93 72 [(1, 3)] [] [] [] [.any, .any, .any] [] [con_f3l, con_f26] R_f3 [] fun y => [V.B9 (V.cons ((V.int .i64) y.1) (V.cons ((V.int .i64) y.2.1) (V.cons ((V.int .i64) y.2.2) (V.unit))))]
def S_f3 : AM :=
 Ae Tryz.f93 1 0 X_f3 (fun x => [e_TPg x]) fun l => (d_TPg (at_ l 0))
structure X_f3_4 where
 CV : TPg
def S_f3_4 : AM :=
 Ad Tryz.f93 4 [(1, .any)] [] [] X_f3_4 (fun x => [(C2 e_TPg) x.CV]) fun l => ⟨(C3 d_TPg) (at_ l 0)⟩
structure X_f3_5 where
 CV : TPg
 SW : (Sl TRg)
 Tf : Int
 FA : Int
def S_f3_5 : AM :=
 Ad Tryz.f93 5 [(1, .any), (29, hsl_TRg), (30, .any), (31, .any)] [] [] X_f3_5 (fun x => [(C2 e_TPg) x.CV, esl_TRg x.SW, (V.int .i64) x.Tf, (V.int .i64) x.FA]) fun l => ⟨(C3 d_TPg) (at_ l 0), dsl_TRg (at_ l 1), dI (at_ l 2), dI (at_ l 3)⟩
structure X_f3_10 where
 CV : TPg
def S_f3_10 : AM :=
 Ad Tryz.f93 10 [(1, .any)] [] [] X_f3_10 (fun x => [(C2 e_TPg) x.CV]) fun l => ⟨(C3 d_TPg) (at_ l 0)⟩
structure X_f3_11 where
 CV : TPg
 HZ : (Sl (Sl TIn))
 Ky : Int
 GQ : Int
def S_f3_11 : AM :=
 Ad Tryz.f93 11 [(1, .any), (42, hsl_sl_TIn), (43, .any), (44, .any)] [] [] X_f3_11 (fun x => [(C2 e_TPg) x.CV, esl_sl_TIn x.HZ, (V.int .i64) x.Ky, (V.int .i64) x.GQ]) fun l => ⟨(C3 d_TPg) (at_ l 0), dsl_sl_TIn (at_ l 1), dI (at_ l 2), dI (at_ l 3)⟩
structure X_f3_16 where
 CV : TPg
 t_8 : Int
 l_9 : (Sl TIn)
 HZ : (Sl (Sl TIn))
 Ky : Int
 GQ : Int
 SU : (Sl TIn)
 Te : Int
 Ps : Int
def S_f3_16 : AM :=
 Ad Tryz.f93 16 [(1, .any), (8, .any), (9, hsl_TIn), (42, hsl_sl_TIn), (43, .any), (44, .any), (53, hsl_TIn), (54, .any), (55, .any)] [] [] X_f3_16 (fun x => [(C2 e_TPg) x.CV, (V.int .i64) x.t_8, esl_TIn x.l_9, esl_sl_TIn x.HZ, (V.int .i64) x.Ky, (V.int .i64) x.GQ, esl_TIn x.SU, (V.int .i64) x.Te, (V.int .i64) x.Ps]) fun l => ⟨(C3 d_TPg) (at_ l 0), dI (at_ l 1), dsl_TIn (at_ l 2), dsl_sl_TIn (at_ l 3), dI (at_ l 4), dI (at_ l 5), dsl_TIn (at_ l 6), dI (at_ l 7), dI (at_ l 8)⟩
structure X_f3_22 where
 CV : TPg
 HZ : (Sl (Sl TIn))
 Ky : Int
 GQ : Int
def S_f3_22 : AM :=
 Ad Tryz.f93 22 [(1, .any), (42, hsl_sl_TIn), (43, .any), (44, .any)] [] [] X_f3_22 (fun x => [(C2 e_TPg) x.CV, esl_sl_TIn x.HZ, (V.int .i64) x.Ky, (V.int .i64) x.GQ]) fun l => ⟨(C3 d_TPg) (at_ l 0), dsl_sl_TIn (at_ l 1), dI (at_ l 2), dI (at_ l 3)⟩
def tt_f3_22 (D_f3_11 : AU X_f3_11 R_f3) (x : X_f3_22) : TT Tryz.prog R_f3 :=
 (.jump S_f3_11 D_f3_11 (X_f3_11.mk x.CV x.HZ x.Ky (IntKind.i64.wrap (x.GQ + 1))))
theorem sd_f3_22 (D_f3_11 : AU X_f3_11 R_f3) (x : X_f3_22) : (tt_f3_22 D_f3_11 x).AH :=
 TT.sJ
def D_f3_22 (D_f3_11 : AU X_f3_11 R_f3) : AU X_f3_22 R_f3 := .of (tt_f3_22 D_f3_11)
theorem ok_f3_22 (D_f3_11 : AU X_f3_11 R_f3) (h_11 : AW J_f3 S_f3_11 D_f3_11) : AW J_f3 S_f3_22 (D_f3_22 D_f3_11) :=
 lk mxk (lbc h_11 rfl lbn) (sd_f3_22 D_f3_11)
def tt_f3_16 (D_f3_11 : AU X_f3_11 R_f3) (D_f3_16 : AU X_f3_16 R_f3) (x : X_f3_16) : TT Tryz.prog R_f3 :=
 (.ite (BR x.Ps x.Te)
 (.need (Az x.Ps x.SU.n) <|
 (.call con_f3l (x.CV, ((x.SU.get (Int.toNat x.Ps)), ((x.l_9.n : Nat) : Int))) fun (y3 : R_f3l) =>
 (.ite (!(AX y3 0))
 (.ret (x.t_8, (x.Ps, y3)))
 (.jump S_f3_16 D_f3_16 (X_f3_16.mk x.CV x.t_8 x.l_9 x.HZ x.Ky x.GQ x.SU x.Te (IntKind.i64.wrap (x.Ps + 1)))))))
 (.jump S_f3_22 (D_f3_22 D_f3_11) (X_f3_22.mk x.CV x.HZ x.Ky x.GQ)))
theorem sd_f3_16 (D_f3_11 : AU X_f3_11 R_f3) (D_f3_16 : AU X_f3_16 R_f3) (x : X_f3_16) : (tt_f3_16 D_f3_11 D_f3_16 x).AH :=
 (TT.sI (TT.sN (TT.sC fun _ => (TT.sI TT.sR TT.sJ))) TT.sJ)
def D_f3_16 (D_f3_11 : AU X_f3_11 R_f3) : AU X_f3_16 R_f3 := AU.loop (tt_f3_16 D_f3_11)
theorem ok_f3_16 (D_f3_11 : AU X_f3_11 R_f3) (h_11 : AW J_f3 S_f3_11 D_f3_11) : AW J_f3 S_f3_16 (D_f3_16 D_f3_11) :=
 A2 fun D_f3_16 h_16 => lk mxk (lbc h_11 rfl (lbc h_16 rfl (lbc (ok_f3_22 D_f3_11 h_11) rfl lbn))) (sd_f3_16 D_f3_11 D_f3_16)
def tt_f3_11 (D_f3_11 : AU X_f3_11 R_f3) (x : X_f3_11) : TT Tryz.prog R_f3 :=
 (.ite (BR x.GQ x.Ky)
 (.need (Az x.GQ x.HZ.n) <|
 (.ite (BR 256 (((x.HZ.get (Int.toNat x.GQ)).n : Nat) : Int))
 (.ret (x.GQ, (256, 4)))
 (.jump S_f3_16 (D_f3_16 D_f3_11) (X_f3_16.mk x.CV x.GQ (x.HZ.get (Int.toNat x.GQ)) x.HZ x.Ky x.GQ (x.HZ.get (Int.toNat x.GQ)) (((x.HZ.get (Int.toNat x.GQ)).n : Nat) : Int) 0))))
 (.ret (0, (0, 0))))
theorem sd_f3_11 (D_f3_11 : AU X_f3_11 R_f3) (x : X_f3_11) : (tt_f3_11 D_f3_11 x).AH :=
 (TT.sI (TT.sN (TT.sI TT.sR TT.sJ)) TT.sR)
def D_f3_11 : AU X_f3_11 R_f3 := AU.loop tt_f3_11
theorem ok_f3_11 : AW J_f3 S_f3_11 D_f3_11 :=
 A2 fun D_f3_11 h_11 => lk mxk (lbc h_11 rfl (lbc (ok_f3_22 D_f3_11 h_11) rfl (lbc (ok_f3_16 D_f3_11 h_11) rfl lbn))) (sd_f3_11 D_f3_11)
def tt_f3_10 (x : X_f3_10) : TT Tryz.prog R_f3 :=
 (.jump S_f3_11 D_f3_11 (X_f3_11.mk x.CV x.CV.AB ((x.CV.AB.n : Nat) : Int) 0))
theorem sd_f3_10 (x : X_f3_10) : (tt_f3_10 x).AH :=
 TT.sJ
def D_f3_10 : AU X_f3_10 R_f3 := .of tt_f3_10
theorem ok_f3_10 : AW J_f3 S_f3_10 D_f3_10 :=
 lk mxk (lbc ok_f3_11 rfl lbn) sd_f3_10
def tt_f3_5 (D_f3_5 : AU X_f3_5 R_f3) (x : X_f3_5) : TT Tryz.prog R_f3 :=
 (.ite (BR x.FA x.Tf)
 (.need (Az x.FA x.SW.n) <|
 (.call con_f26 (x.SW.get (Int.toNat x.FA)) fun (y2 : R_f26) =>
 (.ite (!y2)
 (.ret ((-(1 : Int)), (x.FA, 7)))
 (.jump S_f3_5 D_f3_5 (X_f3_5.mk x.CV x.SW x.Tf (IntKind.i64.wrap (x.FA + 1)))))))
 (.jump S_f3_10 D_f3_10 (X_f3_10.mk x.CV)))
theorem sd_f3_5 (D_f3_5 : AU X_f3_5 R_f3) (x : X_f3_5) : (tt_f3_5 D_f3_5 x).AH :=
 (TT.sI (TT.sN (TT.sC fun _ => (TT.sI TT.sR TT.sJ))) TT.sJ)
def D_f3_5 : AU X_f3_5 R_f3 := AU.loop tt_f3_5
theorem ok_f3_5 : AW J_f3 S_f3_5 D_f3_5 :=
 A2 fun D_f3_5 h_5 => lk mxk (lbc h_5 rfl (lbc ok_f3_11 rfl (lbc ok_f3_10 rfl lbn))) (sd_f3_5 D_f3_5)
def tt_f3_4 (x : X_f3_4) : TT Tryz.prog R_f3 :=
 (.jump S_f3_5 D_f3_5 (X_f3_5.mk x.CV x.CV.AJ ((x.CV.AJ.n : Nat) : Int) 0))
theorem sd_f3_4 (x : X_f3_4) : (tt_f3_4 x).AH :=
 TT.sJ
def D_f3_4 : AU X_f3_4 R_f3 := .of tt_f3_4
theorem ok_f3_4 : AW J_f3 S_f3_4 D_f3_4 :=
 lk mxk (lbc ok_f3_11 rfl (lbc ok_f3_10 rfl (lbc ok_f3_5 rfl lbn))) sd_f3_4
def tt_f3 (x : X_f3) : TT Tryz.prog R_f3 :=
 (.ite (AX ((x.AB.n : Nat) : Int) 0)
 (.ret (0, (0, 1)))
 (.ite (BR 8 ((x.AB.n : Nat) : Int))
 (.ret (0, (0, 1)))
 (.ite (BR 8 ((x.AJ.n : Nat) : Int))
 (.ret (0, (0, 1)))
 (.jump S_f3_4 D_f3_4 (X_f3_4.mk x)))))
theorem sd_f3 (x : X_f3) : (tt_f3 x).AH :=
 (TT.sI TT.sR (TT.sI TT.sR (TT.sI TT.sR TT.sJ)))
def D_f3 : AU X_f3 R_f3 := .of tt_f3
def con_f3 : A3 Tryz.prog :=
 BS 93 J_f3 S_f3 D_f3 1 0 [sh_TPg] (lk mxk (lbc ok_f3_11 rfl (lbc ok_f3_10 rfl (lbc ok_f3_5 rfl (lbc ok_f3_4 rfl lbn)))) sd_f3)
abbrev X_f3m : Type := TPg
abbrev R_f3m : Type := Bool
def J_f3m : A8 Tryz.prog :=
 BD Tryz.prog Tryz.f53 14 [(1, 3), (6, 1)] [] [] [] [.any] [] [con_f3] R_f3m [] fun y => [V.bool y]
def S_f3m : AM :=
 Ae Tryz.f53 1 0 X_f3m (fun x => [e_TPg x]) fun l => (d_TPg (at_ l 0))
def tt_f3m (x : X_f3m) : TT Tryz.prog R_f3m :=
 (.call con_f3 x fun (y1 : R_f3) =>
 (.ret (AX y1.snd.snd 0)))
theorem sd_f3m (x : X_f3m) : (tt_f3m x).AH :=
 (TT.sC fun _ => TT.sR)
def D_f3m : AU X_f3m R_f3m := .of tt_f3m
def con_f3m : A3 Tryz.prog :=
 BS 53 J_f3m S_f3m D_f3m 1 0 [sh_TPg] (lk mxk lbn sd_f3m)
abbrev X_f24 : Type := (Sl TRg)
abbrev R_f24 : Type := (Sl TRg)
def J_f24 : A8 Tryz.prog :=
 BD Tryz.prog Tryz.f94 8 [(6, 1)] [] [] [.shut 2] [hsl_TRg] [] [] R_f24 [] fun y => [esl_TRg y]
def S_f24 : AM :=
 Ae Tryz.f94 1 0 X_f24 (fun x => [esl_TRg x]) fun l => (dsl_TRg (at_ l 0))
def tt_f24 (x : X_f24) : TT Tryz.prog R_f24 :=
 (.ite x.nil
 (.ret (Sl.mk true 0 (fun i1 => (TRg.mk 0 0 0))))
 (.need (true && (room ((0 : Nat) + x.n) 24)) <|
 (.ret (Sl.mk (cond (Nat.beq x.n 0) false false) ((0 : Nat) + x.n) (fun i1 => (TRg.mk (cond (Nat.blt i1 0) (0 : Int) (x.get (i1 - 0)).Kind) (cond (Nat.blt i1 0) (0 : Int) (x.get (i1 - 0)).Cf) (cond (Nat.blt i1 0) (0 : Int) (x.get (i1 - 0)).AQ)))))))
theorem sd_f24 (x : X_f24) : (tt_f24 x).AH :=
 (TT.sI TT.sR (TT.sN TT.sR))
def D_f24 : AU X_f24 R_f24 := .of tt_f24
def con_f24 : A3 Tryz.prog :=
 BS 94 J_f24 S_f24 D_f24 1 0 [hsl_TRg] (lk mxk lbn sd_f24)
abbrev X_f1x : Type := (Sl TIn)
abbrev R_f1x : Type := (Sl TIn)
def J_f1x : A8 Tryz.prog :=
 BD Tryz.prog Tryz.f95 8 [(6, 1)] [] [] [.shut 2] [hsl_TIn] [] [] R_f1x [] fun y => [esl_TIn y]
def S_f1x : AM :=
 Ae Tryz.f95 1 0 X_f1x (fun x => [esl_TIn x]) fun l => (dsl_TIn (at_ l 0))
def tt_f1x (x : X_f1x) : TT Tryz.prog R_f1x :=
 (.ite x.nil
 (.ret (Sl.mk true 0 (fun i1 => (TIn.mk 0 0 0 0 0 0))))
 (.need (true && (room ((0 : Nat) + x.n) 48)) <|
 (.ret (Sl.mk (cond (Nat.beq x.n 0) false false) ((0 : Nat) + x.n) (fun i1 => (TIn.mk (cond (Nat.blt i1 0) (0 : Int) (x.get (i1 - 0)).Op) (cond (Nat.blt i1 0) (0 : Int) (x.get (i1 - 0)).A) (cond (Nat.blt i1 0) (0 : Int) (x.get (i1 - 0)).B) (cond (Nat.blt i1 0) (0 : Int) (x.get (i1 - 0)).C) (cond (Nat.blt i1 0) (0 : Int) (x.get (i1 - 0)).D) (cond (Nat.blt i1 0) (0 : Int) (x.get (i1 - 0)).K)))))))
theorem sd_f1x (x : X_f1x) : (tt_f1x x).AH :=
 (TT.sI TT.sR (TT.sN TT.sR))
def D_f1x : AU X_f1x R_f1x := .of tt_f1x
def con_f1x : A3 Tryz.prog :=
 BS 95 J_f1x S_f1x D_f1x 1 0 [hsl_TIn] (lk mxk lbn sd_f1x)
abbrev DslA_sl_TIn : Type := (Sl (Sl TIn))
def eslA_sl_TIn : DslA_sl_TIn → V := (Kn (some 79) 1 esl_TIn)
def dslA_sl_TIn : V → DslA_sl_TIn := (K5 dsl_TIn)
def hslA_sl_TIn : Sh := (.sl (some 79) 1 (esl_TIn (dsl_TIn .undef)))
def e_TPg_1 (x : TPg) : V :=
 V.cons (esl_TRg x.AJ) (V.cons (eslA_sl_TIn x.AB) (V.unit))
theorem nu_e_TPg_1 (x : TPg) : (e_TPg_1 x).CU := ⟨trivial, trivial, trivial⟩
def sh_TPg_1 : Sh := (.cons hsl_TRg (.cons hslA_sl_TIn .any))
abbrev X_fy : Type := TPg
abbrev R_fy : Type := TPg
def J_fy : A8 Tryz.prog :=
 BD Tryz.prog Tryz.f54 26 [(1, 3), (18, 1), (19, 1)] [] [] [] [sh_TPg] [] [con_f1x, con_f24] R_fy [] fun y => [e_TPg y]
def S_fy : AM :=
 Ae Tryz.f54 1 0 X_fy (fun x => [e_TPg x]) fun l => (d_TPg (at_ l 0))
structure X_fy_3 where
 Q9 : (Sl (Sl TIn))
 M6 : Int
 HC : Int
 Ey : TPg
 A0 : TPg
def S_fy_3 : AM :=
 Ad Tryz.f54 3 [(2, .any), (3, .any), (11, hsl_sl_TIn), (12, .any), (13, .any)] [] [(.loc 2 0, sh_TPg), (.loc 3 0, sh_TPg_1)] X_fy_3 (fun x => [(V.ptr (.loc 2 0) []), (V.ptr (.loc 3 0) []), esl_sl_TIn x.Q9, (V.int .i64) x.M6, (V.int .i64) x.HC, e_TPg x.Ey, e_TPg_1 x.A0]) fun l => ⟨dsl_sl_TIn (at_ l 2), dI (at_ l 3), dI (at_ l 4), d_TPg (at_ l 5), d_TPg (at_ l 6)⟩
def tt_fy_3 (D_fy_3 : AU X_fy_3 R_fy) (x : X_fy_3) : TT Tryz.prog R_fy :=
 (.ite (BR x.HC x.M6)
 (.need (Az x.HC x.Q9.n) <|
 (.call con_f1x (x.Q9.get (Int.toNat x.HC)) fun (y2 : R_f1x) =>
 (.need (true && (room (x.A0.AB.n + 1) 24)) <|
 (.jump S_fy_3 D_fy_3 (X_fy_3.mk x.Q9 x.M6 (IntKind.i64.wrap (x.HC + 1)) x.Ey (TPg.mk x.A0.AJ (Sl.mk (cond (Nat.beq 1 0) x.A0.AB.nil false) (x.A0.AB.n + 1) (fun i3 => (Sl.mk (cond (Nat.blt i3 x.A0.AB.n) (x.A0.AB.get i3).nil y2.nil) (cond (Nat.blt i3 x.A0.AB.n) (x.A0.AB.get i3).n y2.n) (fun i4 => (TIn.mk (cond (Nat.blt i3 x.A0.AB.n) ((x.A0.AB.get i3).get i4).Op (y2.get i4).Op) (cond (Nat.blt i3 x.A0.AB.n) ((x.A0.AB.get i3).get i4).A (y2.get i4).A) (cond (Nat.blt i3 x.A0.AB.n) ((x.A0.AB.get i3).get i4).B (y2.get i4).B) (cond (Nat.blt i3 x.A0.AB.n) ((x.A0.AB.get i3).get i4).C (y2.get i4).C) (cond (Nat.blt i3 x.A0.AB.n) ((x.A0.AB.get i3).get i4).D (y2.get i4).D) (cond (Nat.blt i3 x.A0.AB.n) ((x.A0.AB.get i3).get i4).K (y2.get i4).K))))))))))))
 (.ret x.A0))
theorem sd_fy_3 (D_fy_3 : AU X_fy_3 R_fy) (x : X_fy_3) : (tt_fy_3 D_fy_3 x).AH :=
 (TT.sI (TT.sN (TT.sC fun _ => (TT.sN TT.sJ))) TT.sR)
def D_fy_3 : AU X_fy_3 R_fy := AU.loop tt_fy_3
theorem ok_fy_3 : AW J_fy S_fy_3 D_fy_3 :=
 A2 fun D_fy_3 h_3 => lk mxk (lbc h_3 rfl lbn) (sd_fy_3 D_fy_3)
def tt_fy (x : X_fy) : TT Tryz.prog R_fy :=
 (.call con_f24 x.AJ fun (y1 : R_f24) =>
 (.jump S_fy_3 D_fy_3 (X_fy_3.mk x.AB ((x.AB.n : Nat) : Int) 0 (TPg.mk (Sl.mk true 0 (fun i2 => (TRg.mk 0 0 0))) (Sl.mk true 0 (fun i2 => (Sl.mk true 0 (fun i3 => (TIn.mk 0 0 0 0 0 0)))))) (TPg.mk y1 (Sl.mk true 0 (fun i2 => (Sl.mk true 0 (fun i3 => (TIn.mk 0 0 0 0 0 0)))))))))
theorem sd_fy (x : X_fy) : (tt_fy x).AH :=
 (TT.sC fun _ => TT.sJ)
def D_fy : AU X_fy R_fy := .of tt_fy
def con_fy : A3 Tryz.prog :=
 BS 54 J_fy S_fy D_fy 1 0 [sh_TPg] (lk mxk (lbc ok_fy_3 rfl lbn) sd_fy)
abbrev X_f3t : Type := Int × Int
abbrev R_f3t : Type := Bool
def J_f3t : A8 Tryz.prog :=
 BD Tryz.prog Tryz.f139 19 [] [] [] [] [.any] [] [] R_f3t [] fun y => [V.bool y]
def S_f3t : AM :=
 Ae Tryz.f139 2 0 X_f3t (fun x => [(V.int .i64) x.1, (V.int .i64) x.2]) fun l => (dI (at_ l 0), dI (at_ l 1))
def tt_f3t (x : X_f3t) : TT Tryz.prog R_f3t :=
 (.ite (BW 1 x.fst)
 (.ite (BW x.fst 64)
 (.ite (BW 1 x.snd)
 (.ret (BW x.snd 8))
 (.ret false))
 (.ret false))
 (.ret false))
theorem sd_f3t (x : X_f3t) : (tt_f3t x).AH :=
 (TT.sI (TT.sI (TT.sI TT.sR TT.sR) TT.sR) TT.sR)
def D_f3t : AU X_f3t R_f3t := .of tt_f3t
def con_f3t : A3 Tryz.prog :=
 BS 139 J_f3t S_f3t D_f3t 2 0 [.any, .any] (lk mxk lbn sd_f3t)
abbrev X_f2t : Type := Int
abbrev R_f2t : Type := Int
def J_f2t : A8 Tryz.prog :=
 BD Tryz.prog Tryz.f140 5 [] [] [] [] [.any] [] [] R_f2t [] fun y => [(V.int .u64) y]
def S_f2t : AM :=
 Ae Tryz.f140 1 0 X_f2t (fun x => [(V.int .u64) x]) fun l => (dI (at_ l 0))
def tt_f2t (x : X_f2t) : TT Tryz.prog R_f2t :=
 (.ret (IntKind.u64.wrap ((2 : Int) * x)))
theorem sd_f2t (x : X_f2t) : (tt_f2t x).AH :=
 TT.sR
def D_f2t : AU X_f2t R_f2t := .of tt_f2t
def con_f2t : A3 Tryz.prog :=
 BS 140 J_f2t S_f2t D_f2t 1 0 [.any] (lk mxk lbn sd_f2t)
def d_TSo (v : V) : TSo :=
 ⟨dI (fd v 0), dI (fd v 1), dI (fd v 2)⟩
def e_TSo (x : TSo) : V :=
 V.cons ((V.int .u64) x.AO) (V.cons ((V.int .u64) x.Value) (V.cons ((V.int .i64) x.Left) (V.unit)))
theorem nu_e_TSo (x : TSo) : (e_TSo x).CU := ⟨trivial, trivial, trivial, trivial⟩
abbrev Dsl_TSo : Type := (Sl TSo)
def esl_TSo : Dsl_TSo → V := (Kn none 3 e_TSo)
def dsl_TSo : V → Dsl_TSo := (K5 d_TSo)
def hsl_TSo : Sh := (.sl none 3 (e_TSo (d_TSo .undef)))
abbrev Dosl_TSo : Type := (Sl TSo)
def eosl_TSo : Dosl_TSo → V := (S3 206 3 e_TSo)
def dosl_TSo : V → Dosl_TSo := (K5 d_TSo)
def hosl_TSo : Sh := (.A1 206 3 (e_TSo (d_TSo .undef)))
structure TSs where
 l : (Sl TSo)
 AV : Int
def d_TSs (v : V) : TSs :=
 ⟨dosl_TSo (fd v 0), dI (fd v 1)⟩
def e_TSs (x : TSs) : V :=
 V.cons (eosl_TSo x.l) (V.cons ((V.int .i64) x.AV) (V.unit))
theorem nu_e_TSs (x : TSs) : (e_TSs x).CU := ⟨(fun _ _ => (nu_e_TSo) _ : ∀ y, (eosl_TSo y).CU) x.l, trivial, trivial⟩
def sh_TSs : Sh := (.cons hosl_TSo .any)
abbrev Dbox_TSs : Type := (Bx TSs)
def ebox_TSs : Dbox_TSs → V := (eBx e_TSs)
def dbox_TSs : V → Dbox_TSs := (dBx d_TSs)
def hbox_TSs : Sh := (.box (e_TSs (d_TSs .undef)))
abbrev X_f1v : Type := Int × Int
abbrev R_f1v : Type := (Bx TSs) × Int
def J_f1v : A8 Tryz.prog :=
 BD Tryz.prog Tryz.f96 37 [(13, 1)] [(5, [.close (.loc 28 0), .close (.loc 20 0)]), (6, [.close (.loc 28 0), .close (.loc 20 0)]), (7, [.close (.loc 28 0), .close (.loc 20 0)]), (8, [.close (.loc 28 0), .close (.loc 20 0)]), (9, [.close (.loc 28 0), .close (.loc 20 0)])] [(7, [.IQ (.loc 16 0) [.CC 0 0] 28])] [.close (.loc 28 0), .close (.loc 20 0), .shut 4] [hbox_TSs, .any] [] [con_f2t, con_f3t] R_f1v [(0, [⟨.loc 28 0, .loc 16 0, [.CC 0 0], none, none⟩]), (5, [⟨.loc 28 0, .loc 16 0, [.CC 0 0], none, none⟩])] fun y => [V.B9 (V.cons (ebox_TSs y.1) (V.cons ((V.int .i64) y.2) (V.unit)))]
def S_f1v : AM :=
 Ae Tryz.f96 2 0 X_f1v (fun x => [(V.int .i64) x.1, (V.int .i64) x.2]) fun l => (dI (at_ l 0), dI (at_ l 1))
structure X_f1v_5 where
 Kz : Int
 GR : Int
 Ft : TSs
def S_f1v_5 : AM :=
 Ad Tryz.f96 5 (an [6, 21, 22]) [] [(.loc 16 0, sh_TSs)] X_f1v_5 (fun x => [(V.ptr (.loc 16 0) []), (V.int .i64) x.Kz, (V.int .i64) x.GR, e_TSs x.Ft]) fun l => ⟨dI (at_ l 1), dI (at_ l 2), d_TSs (at_ l 3)⟩
def tt_f1v_5 (D_f1v_5 : AU X_f1v_5 R_f1v) (x : X_f1v_5) : TT Tryz.prog R_f1v :=
 (.ite (BR x.GR x.Kz)
 (.call con_f2t (IntKind.u64.wrap x.GR) fun (y2 : R_f2t) =>
 (.need (Az x.GR x.Ft.l.n) <|
 (.need ((Nat.beq x.Ft.l.n x.Ft.l.n) && true) <|
 (.need ((true && true) && (Nat.beq x.Ft.l.n x.Ft.l.n)) <|
 (.jump S_f1v_5 D_f1v_5 (X_f1v_5.mk x.Kz (IntKind.i64.wrap (x.GR + 1)) (TSs.mk (Sl.mk x.Ft.l.nil x.Ft.l.n (fun i3 => (TSo.mk (cond (Nat.beq i3 ((0 : Nat) + (Int.toNat x.GR))) y2 (x.Ft.l.get i3).AO) (cond (Nat.beq i3 ((0 : Nat) + (Int.toNat x.GR))) (x.Ft.l.get ((0 : Nat) + (Int.toNat x.GR))).Value (x.Ft.l.get i3).Value) (cond (Nat.beq i3 ((0 : Nat) + (Int.toNat x.GR))) (x.Ft.l.get ((0 : Nat) + (Int.toNat x.GR))).Left (x.Ft.l.get i3).Left)))) x.Ft.AV)))))))
 (.ret ((Bx.mk false x.Ft), 0)))
theorem sd_f1v_5 (D_f1v_5 : AU X_f1v_5 R_f1v) (x : X_f1v_5) : (tt_f1v_5 D_f1v_5 x).AH :=
 (TT.sI (TT.sC fun _ => (TT.sN (TT.sN (TT.sN TT.sJ)))) TT.sR)
def D_f1v_5 : AU X_f1v_5 R_f1v := AU.loop tt_f1v_5
theorem ok_f1v_5 : AW J_f1v S_f1v_5 D_f1v_5 :=
 A2 fun D_f1v_5 h_5 => lk mxk (lbc h_5 rfl lbn) (sd_f1v_5 D_f1v_5)
def tt_f1v (x : X_f1v) : TT Tryz.prog R_f1v :=
 (.call con_f3t x fun (y1 : R_f3t) =>
 (.ite (!y1)
 (.ret ((Bx.mk true (TSs.mk (Sl.mk true 0 (fun i2 => (TSo.mk 0 0 0))) 0)), 1))
 (.need ((((upto x.fst (Int.toNat x.fst)) && (BW 0 x.fst)) && (room (Int.toNat x.fst) 24)) && (decide ((x.fst ≤ (9223372036854775807 : Int))))) <|
 (.need ((true && true) && (Nat.beq (Int.toNat x.fst) (Int.toNat x.fst))) <|
 (.jump S_f1v_5 D_f1v_5 (X_f1v_5.mk (((Int.toNat x.fst) : Nat) : Int) 0 (TSs.mk (Sl.mk false (Int.toNat x.fst) (fun i2 => (TSo.mk 0 0 0))) x.snd)))))))
theorem sd_f1v (x : X_f1v) : (tt_f1v x).AH :=
 (TT.sC fun _ => (TT.sI TT.sR (TT.sN (TT.sN TT.sJ))))
def D_f1v : AU X_f1v R_f1v := .of tt_f1v
def con_f1v : A3 Tryz.prog :=
 BS 96 J_f1v S_f1v D_f1v 2 0 [.any, .any] (lk mxk (lbc ok_f1v_5 rfl lbn) sd_f1v)
abbrev X_f46 : Type := TRg
abbrev R_f46 : Type := Bool
def J_f46 : A8 Tryz.prog :=
 BD Tryz.prog Tryz.f97 12 [(1, 3)] [] [] [] [.any] [] [] R_f46 [] fun y => [V.bool y]
def S_f46 : AM :=
 Ae Tryz.f97 1 0 X_f46 (fun x => [e_TRg x]) fun l => (d_TRg (at_ l 0))
def tt_f46 (x : X_f46) : TT Tryz.prog R_f46 :=
 (.ite (AX x.Kind 1)
 (.ret (AX x.AQ 1))
 (.ite (AX x.Kind 2)
 (.ret true)
 (.ret false)))
theorem sd_f46 (x : X_f46) : (tt_f46 x).AH :=
 (TT.sI TT.sR (TT.sI TT.sR TT.sR))
def D_f46 : AU X_f46 R_f46 := .of tt_f46
def con_f46 : A3 Tryz.prog :=
 BS 97 J_f46 S_f46 D_f46 1 0 [.any] (lk mxk lbn sd_f46)
abbrev Nx : Type := (Sl Int)
def KU : Nx → V := (S3 41 1 (V.int .u64))
def Rs : V → Nx := (K5 dI)
def NS : Sh := (.A1 41 1 (V.int .u64 0))
structure TRc where
 tail : Int
 AD : (Sl Int)
def d_TRc (v : V) : TRc :=
 ⟨dI (fd v 0), Rs (fd v 1)⟩
def e_TRc (x : TRc) : V :=
 V.cons ((V.int .u64) x.tail) (V.cons (KU x.AD) (V.unit))
theorem nu_e_TRc (x : TRc) : (e_TRc x).CU := ⟨trivial, (fun _ _ => trivial : ∀ y, (KU y).CU) x.AD, trivial⟩
def sh_TRc : Sh := (.cons .any (.cons NS .any))
structure TRr where
 AA : TRc
 s : (Bx TSs)
 most : Int
 closed : Bool
def d_TRr (v : V) : TRr :=
 ⟨d_TRc (fd v 0), dbox_TSs (fd v 1), dI (fd v 2), dB (fd v 3)⟩
def e_TRr (x : TRr) : V :=
 V.cons (e_TRc x.AA) (V.cons (ebox_TSs x.s) (V.cons ((V.int .u64) x.most) (V.cons (V.bool x.closed) (V.unit))))
theorem nu_e_TRr (x : TRr) : (e_TRr x).CU := ⟨(nu_e_TRc : ∀ y, (e_TRc y).CU) x.AA, (fun _ => (nu_e_TSs) _ : ∀ y, (ebox_TSs y).CU) x.s, trivial, trivial, trivial⟩
def sh_TRr : Sh := (.cons sh_TRc (.cons hbox_TSs .any))
abbrev Dbox_TRr : Type := (Bx TRr)
def ebox_TRr : Dbox_TRr → V := (eBx e_TRr)
def dbox_TRr : V → Dbox_TRr := (dBx d_TRr)
def hbox_TRr : Sh := (.box (e_TRr (d_TRr .undef)))
abbrev X_f2s : Type := TRg
abbrev R_f2s : Type := (Bx TRr) × Int
def J_f2s : A8 Tryz.prog :=
 BD Tryz.prog Tryz.f55 31 [(1, 3), (6, 1), (23, 1), (25, 1)] [] [] [.shut 2] [hbox_TRr, .any] [] [con_f46, con_f1v] R_f2s [] fun y => [V.B9 (V.cons (ebox_TRr y.1) (V.cons ((V.int .i64) y.2) (V.unit)))]
def S_f2s : AM :=
 Ae Tryz.f55 1 0 X_f2s (fun x => [e_TRg x]) fun l => (d_TRg (at_ l 0))
structure X_f2s_4 where
 Mh : TRg
 VL : (Bx TSs)
def S_f2s_4 : AM :=
 Ad Tryz.f55 4 [(1, .any), (4, hbox_TSs)] [] [] X_f2s_4 (fun x => [(C2 e_TRg) x.Mh, ebox_TSs x.VL]) fun l => ⟨(C3 d_TRg) (at_ l 0), dbox_TSs (at_ l 1)⟩
def tt_f2s_4 (x : X_f2s_4) : TT Tryz.prog R_f2s :=
 (.need ((((upto x.Mh.AQ (Int.toNat x.Mh.AQ)) && (BW 0 x.Mh.AQ)) && (room (Int.toNat x.Mh.AQ) 8)) && (decide ((x.Mh.AQ ≤ (9223372036854775807 : Int))))) <|
 (.ret ((Bx.mk false (TRr.mk (TRc.mk 0 (Sl.mk false (Int.toNat x.Mh.AQ) (fun i1 => (0 : Int)))) x.VL (IntKind.u64.wrap x.Mh.Cf) false)), 0)))
theorem sd_f2s_4 (x : X_f2s_4) : (tt_f2s_4 x).AH :=
 (TT.sN TT.sR)
def D_f2s_4 : AU X_f2s_4 R_f2s := .of tt_f2s_4
theorem ok_f2s_4 : AW J_f2s S_f2s_4 D_f2s_4 :=
 lk mxk lbn sd_f2s_4
def tt_f2s (x : X_f2s) : TT Tryz.prog R_f2s :=
 (.call con_f1v (x.Cf, x.AQ) fun (y1 : R_f1v) =>
 (.ite (!(AX y1.snd 0))
 (.ret ((Bx.mk true (TRr.mk (TRc.mk 0 (Sl.mk true 0 (fun i2 => (0 : Int)))) (Bx.mk true (TSs.mk (Sl.mk true 0 (fun i2 => (TSo.mk 0 0 0))) 0)) 0 false)), 1))
 (.call con_f46 x fun (y2 : R_f46) =>
 (.ite (!y2)
 (.ret ((Bx.mk true (TRr.mk (TRc.mk 0 (Sl.mk true 0 (fun i3 => (0 : Int)))) (Bx.mk true (TSs.mk (Sl.mk true 0 (fun i3 => (TSo.mk 0 0 0))) 0)) 0 false)), 1))
 (.jump S_f2s_4 D_f2s_4 (X_f2s_4.mk x y1.fst))))))
theorem sd_f2s (x : X_f2s) : (tt_f2s x).AH :=
 (TT.sC fun _ => (TT.sI TT.sR (TT.sC fun _ => (TT.sI TT.sR TT.sJ))))
def D_f2s : AU X_f2s R_f2s := .of tt_f2s
def con_f2s : A3 Tryz.prog :=
 BS 55 J_f2s S_f2s D_f2s 1 0 [.any] (lk mxk (lbc ok_f2s_4 rfl lbn) sd_f2s)
abbrev Dsl_box_TRr : Type := (Sl (Bx TRr))
def esl_box_TRr : Dsl_box_TRr → V := (Kn none 1 ebox_TRr)
def dsl_box_TRr : V → Dsl_box_TRr := (K5 dbox_TRr)
def hsl_box_TRr : Sh := (.sl none 1 (ebox_TRr (dbox_TRr .undef)))
abbrev PV : Type := (Sl Int)
def EC : PV → V := (Kn none 1 (V.int .u64))
def E5 : V → PV := (K5 dI)
def EW : Sh := (.sl none 1 (V.int .u64 0))
structure TTh where
 At : Int
 Phase : Int
 Ring : Int
 Status : Int
 AG : Int
 Af : (Nat → Int)
 Seen : (Sl Int)
def d_TTh (v : V) : TTh :=
 ⟨dI (fd v 0), dI (fd v 1), dI (fd v 2), dI (fd v 3), dI (fd v 4), (UM dI) (fd v 5), E5 (fd v 6)⟩
def e_TTh (x : TTh) : V :=
 V.cons ((V.int .i64) x.At) (V.cons ((V.int .i64) x.Phase) (V.cons ((V.int .i64) x.Ring) (V.cons ((V.int .i64) x.Status) (V.cons ((V.int .u64) x.AG) (V.cons ((Rr 1 8 (V.int .u64)) x.Af) (V.cons (EC x.Seen) (V.unit)))))))
theorem nu_e_TTh (x : TTh) : (e_TTh x).CU := ⟨trivial, trivial, trivial, trivial, trivial, (fun _ _ => trivial : ∀ y, ((Rr 1 8 (V.int .u64)) y).CU) x.Af, trivial, trivial⟩
def sh_TTh : Sh := (.cons .any (.cons .any (.cons .any (.cons .any (.cons .any (.cons .any (.cons EW .any)))))))
abbrev Dosl_TTh : Type := (Sl TTh)
def eosl_TTh : Dosl_TTh → V := (S3 91 14 e_TTh)
def dosl_TTh : V → Dosl_TTh := (K5 d_TTh)
def hosl_TTh : Sh := (.A1 91 14 (e_TTh (d_TTh .undef)))
abbrev Dosl_box_TRr : Type := (Sl (Bx TRr))
def eosl_box_TRr : Dosl_box_TRr → V := (S3 102 1 ebox_TRr)
def dosl_box_TRr : V → Dosl_box_TRr := (K5 dbox_TRr)
def hosl_box_TRr : Sh := (.A1 102 1 (ebox_TRr (dbox_TRr .undef)))
structure TFa where
 p : TPg
 threads : (Sl TTh)
 rings : (Sl (Bx TRr))
 now : Int
 reads : Int
 ended : Bool
def d_TFa (v : V) : TFa :=
 ⟨d_TPg (fd v 0), dosl_TTh (fd v 1), dosl_box_TRr (fd v 2), dI (fd v 3), dI (fd v 4), dB (fd v 5)⟩
def e_TFa (x : TFa) : V :=
 V.cons (e_TPg x.p) (V.cons (eosl_TTh x.threads) (V.cons (eosl_box_TRr x.rings) (V.cons ((V.int .u64) x.now) (V.cons ((V.int .u64) x.reads) (V.cons (V.bool x.ended) (V.unit))))))
theorem nu_e_TFa (x : TFa) : (e_TFa x).CU := ⟨(nu_e_TPg : ∀ y, (e_TPg y).CU) x.p, (fun _ _ => (nu_e_TTh) _ : ∀ y, (eosl_TTh y).CU) x.threads, (fun _ _ => (fun _ => (nu_e_TRr) _) _ : ∀ y, (eosl_box_TRr y).CU) x.rings, trivial, trivial, trivial, trivial⟩
def sh_TFa : Sh := (.cons sh_TPg (.cons hosl_TTh (.cons hosl_box_TRr .any)))
abbrev Dbox_TFa : Type := (Bx TFa)
def ebox_TFa : Dbox_TFa → V := (eBx e_TFa)
def dbox_TFa : V → Dbox_TFa := (dBx d_TFa)
def hbox_TFa : Sh := (.box (e_TFa (d_TFa .undef)))
def e_TFa_2 (x : TFa) : V :=
 V.cons (e_TPg x.p) (V.cons (eosl_TTh x.threads) (V.cons (eosl_box_TRr x.rings) (V.cons ((V.int .u64) x.now) (V.cons ((V.int .u64) x.reads) (V.cons (V.bool x.ended) (V.unit))))))
theorem nu_e_TFa_2 (x : TFa) : (e_TFa_2 x).CU := ⟨(nu_e_TPg : ∀ y, (e_TPg y).CU) x.p, (fun _ _ => (nu_e_TTh) _ : ∀ y, (eosl_TTh y).CU) x.threads, (fun _ _ => (fun _ => (nu_e_TRr) _) _ : ∀ y, (eosl_box_TRr y).CU) x.rings, trivial, trivial, trivial, trivial⟩
def sh_TFa_2 : Sh := (.cons sh_TPg (.cons hosl_TTh (.cons hosl_box_TRr .any)))
abbrev X_f1j : Type := TPg
abbrev R_f1j : Type := (Bx TFa) × Int
def J_f1j : A8 Tryz.prog :=
 BD Tryz.prog Tryz.f26 44 [(1, 3), (17, 1), (27, 1), (36, 1), (37, 1), (38, 1)] [] [] [.shut 2] [hbox_TFa, .any] [] [con_f3m, con_fy, con_f2s] R_f1j [] fun y => [V.B9 (V.cons (ebox_TFa y.1) (V.cons ((V.int .i64) y.2) (V.unit)))]
def S_f1j : AM :=
 Ae Tryz.f26 1 0 X_f1j (fun x => [e_TPg x]) fun l => (d_TPg (at_ l 0))
structure X_f1j_5 where
 Kz : (Sl TRg)
 GR : Int
 IK : Int
 B5 : TFa
def S_f1j_5 : AM :=
 Ad Tryz.f26 5 [(4, .any), (21, hsl_TRg), (22, .any), (23, .any)] [] [(.loc 19 0, sh_TFa_2)] X_f1j_5 (fun x => [(V.ptr (.loc 19 0) []), esl_TRg x.Kz, (V.int .i64) x.GR, (V.int .i64) x.IK, e_TFa_2 x.B5]) fun l => ⟨dsl_TRg (at_ l 1), dI (at_ l 2), dI (at_ l 3), d_TFa (at_ l 4)⟩
def tt_f1j_5 (D_f1j_5 : AU X_f1j_5 R_f1j) (x : X_f1j_5) : TT Tryz.prog R_f1j :=
 (.ite (BR x.IK x.GR)
 (.need (Az x.IK x.Kz.n) <|
 (.call con_f2s (x.Kz.get (Int.toNat x.IK)) fun (y2 : R_f2s) =>
 (.need (true && (room (x.B5.rings.n + 1) 8)) <|
 (.jump S_f1j_5 D_f1j_5 (X_f1j_5.mk x.Kz x.GR (IntKind.i64.wrap (x.IK + 1)) (TFa.mk x.B5.p x.B5.threads (Sl.mk (cond (Nat.beq 1 0) x.B5.rings.nil false) (x.B5.rings.n + 1) (fun i3 => (Bx.mk (cond (Nat.blt i3 x.B5.rings.n) (x.B5.rings.get i3).nil y2.fst.nil) (TRr.mk (TRc.mk (cond (Nat.blt i3 x.B5.rings.n) (x.B5.rings.get i3).x.AA.tail y2.fst.x.AA.tail) (Sl.mk (cond (Nat.blt i3 x.B5.rings.n) (x.B5.rings.get i3).x.AA.AD.nil y2.fst.x.AA.AD.nil) (cond (Nat.blt i3 x.B5.rings.n) (x.B5.rings.get i3).x.AA.AD.n y2.fst.x.AA.AD.n) (fun i4 => (cond (Nat.blt i3 x.B5.rings.n) ((x.B5.rings.get i3).x.AA.AD.get i4) (y2.fst.x.AA.AD.get i4))))) (Bx.mk (cond (Nat.blt i3 x.B5.rings.n) (x.B5.rings.get i3).x.s.nil y2.fst.x.s.nil) (TSs.mk (Sl.mk (cond (Nat.blt i3 x.B5.rings.n) (x.B5.rings.get i3).x.s.x.l.nil y2.fst.x.s.x.l.nil) (cond (Nat.blt i3 x.B5.rings.n) (x.B5.rings.get i3).x.s.x.l.n y2.fst.x.s.x.l.n) (fun i4 => (TSo.mk (cond (Nat.blt i3 x.B5.rings.n) ((x.B5.rings.get i3).x.s.x.l.get i4).AO (y2.fst.x.s.x.l.get i4).AO) (cond (Nat.blt i3 x.B5.rings.n) ((x.B5.rings.get i3).x.s.x.l.get i4).Value (y2.fst.x.s.x.l.get i4).Value) (cond (Nat.blt i3 x.B5.rings.n) ((x.B5.rings.get i3).x.s.x.l.get i4).Left (y2.fst.x.s.x.l.get i4).Left)))) (cond (Nat.blt i3 x.B5.rings.n) (x.B5.rings.get i3).x.s.x.AV y2.fst.x.s.x.AV))) (cond (Nat.blt i3 x.B5.rings.n) (x.B5.rings.get i3).x.most y2.fst.x.most) (cond (Nat.blt i3 x.B5.rings.n) (x.B5.rings.get i3).x.closed y2.fst.x.closed))))) x.B5.now x.B5.reads x.B5.ended))))))
 (.ret ((Bx.mk false x.B5), 0)))
theorem sd_f1j_5 (D_f1j_5 : AU X_f1j_5 R_f1j) (x : X_f1j_5) : (tt_f1j_5 D_f1j_5 x).AH :=
 (TT.sI (TT.sN (TT.sC fun _ => (TT.sN TT.sJ))) TT.sR)
def D_f1j_5 : AU X_f1j_5 R_f1j := AU.loop tt_f1j_5
theorem ok_f1j_5 : AW J_f1j S_f1j_5 D_f1j_5 :=
 A2 fun D_f1j_5 h_5 => lk mxk (lbc h_5 rfl lbn) (sd_f1j_5 D_f1j_5)
def tt_f1j (x : X_f1j) : TT Tryz.prog R_f1j :=
 (.call con_f3m x fun (y1 : R_f3m) =>
 (.ite (!y1)
 (.ret ((Bx.mk true (TFa.mk (TPg.mk (Sl.mk true 0 (fun i2 => (TRg.mk 0 0 0))) (Sl.mk true 0 (fun i2 => (Sl.mk true 0 (fun i3 => (TIn.mk 0 0 0 0 0 0)))))) (Sl.mk true 0 (fun i2 => (TTh.mk 0 0 0 0 0 (fun i3 => (0 : Int)) (Sl.mk true 0 (fun i3 => (0 : Int)))))) (Sl.mk true 0 (fun i2 => (Bx.mk true (TRr.mk (TRc.mk 0 (Sl.mk true 0 (fun i3 => (0 : Int)))) (Bx.mk true (TSs.mk (Sl.mk true 0 (fun i3 => (TSo.mk 0 0 0))) 0)) 0 false)))) 0 0 false)), 1))
 (.call con_fy x fun (y2 : R_fy) =>
 (.need ((((upto ((x.AB.n : Nat) : Int) (Int.toNat ((x.AB.n : Nat) : Int))) && (BW 0 ((x.AB.n : Nat) : Int))) && (room (Int.toNat ((x.AB.n : Nat) : Int)) 128)) && (decide ((((x.AB.n : Nat) : Int) ≤ (9223372036854775807 : Int))))) <|
 (.jump S_f1j_5 D_f1j_5 (X_f1j_5.mk x.AJ ((x.AJ.n : Nat) : Int) 0 (TFa.mk y2 (Sl.mk false (Int.toNat ((x.AB.n : Nat) : Int)) (fun i3 => (TTh.mk 0 0 0 0 0 (fun i4 => (0 : Int)) (Sl.mk true 0 (fun i4 => (0 : Int)))))) (Sl.mk true 0 (fun i3 => (Bx.mk true (TRr.mk (TRc.mk 0 (Sl.mk true 0 (fun i4 => (0 : Int)))) (Bx.mk true (TSs.mk (Sl.mk true 0 (fun i4 => (TSo.mk 0 0 0))) 0)) 0 false)))) 0 0 false)))))))
theorem sd_f1j (x : X_f1j) : (tt_f1j x).AH :=
 (TT.sC fun _ => (TT.sI TT.sR (TT.sC fun _ => (TT.sN TT.sJ))))
def D_f1j : AU X_f1j R_f1j := .of tt_f1j
def con_f1j : A3 Tryz.prog :=
 BS 26 J_f1j S_f1j D_f1j 1 0 [sh_TPg] (lk mxk (lbc ok_f1j_5 rfl lbn) sd_f1j)
abbrev PW : Type := (Sl ByteArray)
def PJ : PW → V := (Kn none 1 V.str)
def PK : V → PW := (K5 dS)
def L7 : Sh := (.sl none 1 (V.str (dS .undef)))
abbrev X_f3u : Type := Unit
abbrev R_f3u : Type := (Sl ByteArray)
def J_f3u : A8 Tryz.prog :=
 BD Tryz.prog Tryz.f86 2 [] [] [] [.shut 0] [L7] [] [] R_f3u [] fun y => [PJ y]
def S_f3u : AM :=
 Ae Tryz.f86 0 0 X_f3u (fun x => []) fun l => ()
def tt_f3u (x : X_f3u) : TT Tryz.prog R_f3u :=
 (.ret (Sl.mk false 15 (fun i1 => (cond (Nat.beq i1 0) (ByteArray.mk #[99, 108, 97, 105, 109]) (cond (Nat.beq i1 1) (ByteArray.mk #[112, 117, 98, 108, 105, 115, 104]) (cond (Nat.beq i1 2) (ByteArray.mk #[116, 97, 107, 101]) (cond (Nat.beq i1 3) (ByteArray.mk #[114, 101, 108, 101, 97, 115, 101]) (cond (Nat.beq i1 4) (ByteArray.mk #[110, 111]) (cond (Nat.beq i1 5) (ByteArray.mk #[115, 104, 117, 116]) (cond (Nat.beq i1 6) (ByteArray.mk #[116, 105, 109, 101]) (cond (Nat.beq i1 7) (ByteArray.mk #[99, 108, 111, 99, 107]) (cond (Nat.beq i1 8) (ByteArray.mk #[100, 114, 97, 119]) (cond (Nat.beq i1 9) (ByteArray.mk #[114, 101, 97, 100]) (cond (Nat.beq i1 10) (ByteArray.mk #[101, 110, 100]) (cond (Nat.beq i1 11) (ByteArray.mk #[115, 101, 101]) (cond (Nat.beq i1 12) (ByteArray.mk #[99, 108, 111, 115, 101]) (cond (Nat.beq i1 13) (ByteArray.mk #[104, 97, 108, 116]) (ByteArray.mk #[115, 112, 105, 110]))))))))))))))))))
theorem sd_f3u (x : X_f3u) : (tt_f3u x).AH :=
 TT.sR
def D_f3u : AU X_f3u R_f3u := .of tt_f3u
def con_f3u : A3 Tryz.prog :=
 BS 86 J_f3u S_f3u D_f3u 0 0 [] (lk mxk lbn sd_f3u)
abbrev X_f20 : Type := Int
abbrev R_f20 : Type := ByteArray
def J_f20 : A8 Tryz.prog :=
 BD Tryz.prog Tryz.f46 14 [] [] [] [] [.any] [] [con_f3u] R_f20 [] fun y => [V.str y]
def S_f20 : AM :=
 Ae Tryz.f46 1 0 X_f20 (fun x => [(V.int .i64) x]) fun l => (dI (at_ l 0))
structure X_f20_3 where
 HJ : Int
def S_f20_3 : AM :=
 Ad Tryz.f46 3 [(0, .any)] [] [] X_f20_3 (fun x => [(V.int .i64) x.HJ]) fun l => ⟨dI (at_ l 0)⟩
def tt_f20_3 (x : X_f20_3) : TT Tryz.prog R_f20 :=
 (.call con_f3u PUnit.unit fun (y1 : R_f3u) =>
 (.need (Az (IntKind.i64.wrap (x.HJ - 1)) y1.n) <|
 (.ret (y1.get (Int.toNat (IntKind.i64.wrap (x.HJ - 1)))))))
theorem sd_f20_3 (x : X_f20_3) : (tt_f20_3 x).AH :=
 (TT.sC fun _ => (TT.sN TT.sR))
def D_f20_3 : AU X_f20_3 R_f20 := .of tt_f20_3
theorem ok_f20_3 : AW J_f20 S_f20_3 D_f20_3 :=
 lk mxk lbn sd_f20_3
def tt_f20 (x : X_f20) : TT Tryz.prog R_f20 :=
 (.ite (BR x 1)
 (.ret (ByteArray.mk #[]))
 (.ite (BR 15 x)
 (.ret (ByteArray.mk #[]))
 (.jump S_f20_3 D_f20_3 (X_f20_3.mk x))))
theorem sd_f20 (x : X_f20) : (tt_f20 x).AH :=
 (TT.sI TT.sR (TT.sI TT.sR TT.sJ))
def D_f20 : AU X_f20 R_f20 := .of tt_f20
def con_f20 : A3 Tryz.prog :=
 BS 46 J_f20 S_f20 D_f20 1 0 [.any] (lk mxk (lbc ok_f20_3 rfl lbn) sd_f20)
abbrev X_f2m : Type := Int
abbrev R_f2m : Type := Bool
def J_f2m : A8 Tryz.prog :=
 BD Tryz.prog Tryz.f128 13 [] [] [] [] [.any] [] [] R_f2m [] fun y => [V.bool y]
def S_f2m : AM :=
 Ae Tryz.f128 1 0 X_f2m (fun x => [(V.int .i64) x]) fun l => (dI (at_ l 0))
def tt_f2m (x : X_f2m) : TT Tryz.prog R_f2m :=
 (.ite (BW 1 x)
 (.ite (BW x 4)
 (.ret true)
 (.ret (AX x 13)))
 (.ret (AX x 13)))
theorem sd_f2m (x : X_f2m) : (tt_f2m x).AH :=
 (TT.sI (TT.sI TT.sR TT.sR) TT.sR)
def D_f2m : AU X_f2m R_f2m := .of tt_f2m
def con_f2m : A3 Tryz.prog :=
 BS 128 J_f2m S_f2m D_f2m 1 0 [.any] (lk mxk lbn sd_f2m)
abbrev X_f2x : Type := Int
abbrev R_f2x : Type := Bool
def J_f2x : A8 Tryz.prog :=
 BD Tryz.prog Tryz.f80 13 [] [] [] [] [.any] [] [con_f2m] R_f2x [] fun y => [V.bool y]
def S_f2x : AM :=
 Ae Tryz.f80 1 0 X_f2x (fun x => [(V.int .i64) x]) fun l => (dI (at_ l 0))
def tt_f2x (x : X_f2x) : TT Tryz.prog R_f2x :=
 (.call con_f2m x fun (y1 : R_f2m) =>
 (.ite y1
 (.ret true)
 (.ite (BW 5 x)
 (.ret (BW x 7))
 (.ret false))))
theorem sd_f2x (x : X_f2x) : (tt_f2x x).AH :=
 (TT.sC fun _ => (TT.sI TT.sR (TT.sI TT.sR TT.sR)))
def D_f2x : AU X_f2x R_f2x := .of tt_f2x
def con_f2x : A3 Tryz.prog :=
 BS 80 J_f2x S_f2x D_f2x 1 0 [.any] (lk mxk lbn sd_f2x)
abbrev X_f37 : Type := Int
abbrev R_f37 : Type := Bool
def J_f37 : A8 Tryz.prog :=
 BD Tryz.prog Tryz.f133 13 [] [] [] [] [.any] [] [] R_f37 [] fun y => [V.bool y]
def S_f37 : AM :=
 Ae Tryz.f133 1 0 X_f37 (fun x => [(V.int .i64) x]) fun l => (dI (at_ l 0))
def tt_f37 (x : X_f37) : TT Tryz.prog R_f37 :=
 (.ite (BW 8 x)
 (.ite (BW x 10)
 (.ret true)
 (.ret (AX x 12)))
 (.ret (AX x 12)))
theorem sd_f37 (x : X_f37) : (tt_f37 x).AH :=
 (TT.sI (TT.sI TT.sR TT.sR) TT.sR)
def D_f37 : AU X_f37 R_f37 := .of tt_f37
def con_f37 : A3 Tryz.prog :=
 BS 133 J_f37 S_f37 D_f37 1 0 [.any] (lk mxk lbn sd_f37)
def d_TEv (v : V) : TEv :=
 ⟨dI (fd v 0), dI (fd v 1), dI (fd v 2), dI (fd v 3), dI (fd v 4)⟩
def e_TEv (x : TEv) : V :=
 V.cons ((V.int .i64) x.Thread) (V.cons ((V.int .i64) x.Kind) (V.cons ((V.int .i64) x.Ring) (V.cons ((V.int .u64) x.AG) (V.cons ((V.int .u64) x.Value) (V.unit)))))
theorem nu_e_TEv (x : TEv) : (e_TEv x).CU := ⟨trivial, trivial, trivial, trivial, trivial, trivial⟩
abbrev X_fz : Type := TEv
abbrev R_fz : Type := TEv
def J_fz : A8 Tryz.prog :=
 BD Tryz.prog Tryz.f131 19 [] [] [] [] [.any] [] [con_f2x, con_f2m, con_f37] R_fz [] fun y => [e_TEv y]
def S_fz : AM :=
 Ae Tryz.f131 1 0 X_fz (fun x => [e_TEv x]) fun l => (d_TEv (at_ l 0))
structure X_fz_3 where
 OU : TEv
 Ey : TEv
def S_fz_3 : AM :=
 Ad Tryz.f131 3 (an [1, 2]) [] [(.loc 1 0, .any), (.loc 2 0, .any)] X_fz_3 (fun x => [(V.ptr (.loc 1 0) []), (V.ptr (.loc 2 0) []), e_TEv x.OU, e_TEv x.Ey]) fun l => ⟨d_TEv (at_ l 2), d_TEv (at_ l 3)⟩
structure X_fz_5 where
 OU : TEv
 Ey : TEv
def S_fz_5 : AM :=
 Ad Tryz.f131 5 (an [1, 2]) [] [(.loc 1 0, .any), (.loc 2 0, .any)] X_fz_5 (fun x => [(V.ptr (.loc 1 0) []), (V.ptr (.loc 2 0) []), e_TEv x.OU, e_TEv x.Ey]) fun l => ⟨d_TEv (at_ l 2), d_TEv (at_ l 3)⟩
def tt_fz_5 (x : X_fz_5) : TT Tryz.prog R_fz :=
 (.call con_f37 x.OU.Kind fun (y1 : R_f37) =>
 (.ite (!y1)
 (.ret (TEv.mk x.OU.Thread x.OU.Kind x.OU.Ring x.OU.AG 0))
 (.ret x.OU)))
theorem sd_fz_5 (x : X_fz_5) : (tt_fz_5 x).AH :=
 (TT.sC fun _ => (TT.sI TT.sR TT.sR))
def D_fz_5 : AU X_fz_5 R_fz := .of tt_fz_5
theorem ok_fz_5 : AW J_fz S_fz_5 D_fz_5 :=
 lk mxk lbn sd_fz_5
def tt_fz_3 (x : X_fz_3) : TT Tryz.prog R_fz :=
 (.call con_f2m x.OU.Kind fun (y1 : R_f2m) =>
 (.ite (!y1)
 (.jump S_fz_5 D_fz_5 (X_fz_5.mk (TEv.mk x.OU.Thread x.OU.Kind x.OU.Ring 0 x.OU.Value) x.Ey))
 (.jump S_fz_5 D_fz_5 (X_fz_5.mk x.OU x.Ey))))
theorem sd_fz_3 (x : X_fz_3) : (tt_fz_3 x).AH :=
 (TT.sC fun _ => (TT.sI TT.sJ TT.sJ))
def D_fz_3 : AU X_fz_3 R_fz := .of tt_fz_3
theorem ok_fz_3 : AW J_fz S_fz_3 D_fz_3 :=
 lk mxk (lbc ok_fz_5 rfl lbn) sd_fz_3
def tt_fz (x : X_fz) : TT Tryz.prog R_fz :=
 (.call con_f2x x.Kind fun (y1 : R_f2x) =>
 (.ite (!y1)
 (.jump S_fz_3 D_fz_3 (X_fz_3.mk (TEv.mk x.Thread x.Kind 0 x.AG x.Value) (TEv.mk 0 0 0 0 0)))
 (.jump S_fz_3 D_fz_3 (X_fz_3.mk x (TEv.mk 0 0 0 0 0)))))
theorem sd_fz (x : X_fz) : (tt_fz x).AH :=
 (TT.sC fun _ => (TT.sI TT.sJ TT.sJ))
def D_fz : AU X_fz R_fz := .of tt_fz
def con_fz : A3 Tryz.prog :=
 BS 131 J_fz S_fz D_fz 1 0 [.any] (lk mxk (lbc ok_fz_5 rfl (lbc ok_fz_3 rfl lbn)) sd_fz)
abbrev X_f33 : Type := TEv
abbrev R_f33 : Type := Bool
def J_f33 : A8 Tryz.prog :=
 BD Tryz.prog Tryz.f84 38 [(1, 3)] [] [] [] [.any] [] [con_f20, con_fz] R_f33 [] fun y => [V.bool y]
def S_f33 : AM :=
 Ae Tryz.f84 1 0 X_f33 (fun x => [e_TEv x]) fun l => (d_TEv (at_ l 0))
def tt_f33 (x : X_f33) : TT Tryz.prog R_f33 :=
 (.call con_f20 x.Kind fun (y1 : R_f20) =>
 (.ite (!(seq y1 (ByteArray.mk #[])))
 (.call con_fz x fun (y2 : R_fz) =>
 (.ite ((AX x.Thread y2.Thread) && ((AX x.Kind y2.Kind) && ((AX x.Ring y2.Ring) && ((AX x.AG y2.AG) && ((AX x.Value y2.Value) && true)))))
 (.ite (BW 0 x.Thread)
 (.ite (BR x.Thread 8)
 (.ite (BW 0 x.Ring)
 (.ite (BR x.Ring 8)
 (.ret (BR x.AG 4611686018427387904))
 (.ret false))
 (.ret false))
 (.ret false))
 (.ret false))
 (.ret false)))
 (.ret false)))
theorem sd_f33 (x : X_f33) : (tt_f33 x).AH :=
 (TT.sC fun _ => (TT.sI (TT.sC fun _ => (TT.sI (TT.sI (TT.sI (TT.sI (TT.sI TT.sR TT.sR) TT.sR) TT.sR) TT.sR) TT.sR)) TT.sR))
def D_f33 : AU X_f33 R_f33 := .of tt_f33
def con_f33 : A3 Tryz.prog :=
 BS 84 J_f33 S_f33 D_f33 1 0 [.any] (lk mxk lbn sd_f33)
abbrev Dsl_TTh : Type := (Sl TTh)
def esl_TTh : Dsl_TTh → V := (Kn none 14 e_TTh)
def dsl_TTh : V → Dsl_TTh := (K5 d_TTh)
def hsl_TTh : Sh := (.sl none 14 (e_TTh (d_TTh .undef)))
abbrev X_f1f : Type := Int × TFa
abbrev R_f1f : Type := Bool
abbrev RR_f1f : Type := Bool × TFa
abbrev p_f1f (y : RR_f1f) : TFa := y.2
abbrev w_f1f (x : X_f1f) : TFa := x.2
def J_f1f : A8 Tryz.prog :=
 BD Tryz.prog Tryz.f58 20 [] [] [] [.back (.loc 16 0)] [.any] [sh_TFa] [] RR_f1f [] fun y => [V.bool y.1, e_TFa y.2]
def S_f1f : AM :=
 Ae Tryz.f58 2 1 X_f1f (fun x => [(V.ptr (.par 0) []), (V.int .i64) x.1, e_TFa x.2]) fun l => (dI (at_ l 1), d_TFa (at_ l 2))
def tt_f1f (x : X_f1f) : TT Tryz.prog RR_f1f :=
 (.ite (BW 0 x.fst)
 (.need ((true && true) && (Nat.beq x.snd.threads.n x.snd.threads.n)) <|
 (.ret ((BR x.fst ((x.snd.threads.n : Nat) : Int)), x.snd)))
 (.ret (false, x.snd)))
theorem sd_f1f (x : X_f1f) : (tt_f1f x).AH :=
 (TT.sI (TT.sN TT.sR) TT.sR)
theorem roT_f1f (x : X_f1f) : TT.Ro p_f1f (w_f1f x) (tt_f1f x) :=
 (TT.rI (TT.rN (TT.rR rfl)) (TT.rR rfl))
def D_f1f : AU X_f1f R_f1f := .ro (.of tt_f1f) (fun y => (y.1)) (fun y x => (y, x.2)) fun x y h => congrArg (fun o => (y.1, o)) (roT_f1f x y h)
def con_f1f : A3 Tryz.prog :=
 C7 58 J_f1f S_f1f (.of tt_f1f) D_f1f (fun y x => (y, x.2)) (fun y => V.bool y) 2 1 [.any, .any] (lk mxk lbn sd_f1f) (fun x => ⟨(nu_e_TFa : ∀ y, (e_TFa y).CU) (x.2), trivial⟩)
abbrev X_f38 : Type := TIn × (Sl TIn)
abbrev R_f38 : Type := Bool
def J_f38 : A8 Tryz.prog :=
 BD Tryz.prog Tryz.f197 19 [(2, 3)] [] [] [] [.any] [] [con_f3i, con_f3h] R_f38 [] fun y => [V.bool y]
def S_f38 : AM :=
 Ae Tryz.f197 2 0 X_f38 (fun x => [e_TIn x.1, (C2 esl_TIn) x.2]) fun l => (d_TIn (at_ l 0), (C3 dsl_TIn) (at_ l 1))
def tt_f38 (x : X_f38) : TT Tryz.prog R_f38 :=
 (.call con_f3h x.fst fun (y1 : R_f3h) =>
 (.ite (!y1)
 (.ret true)
 (.call con_f3i x.fst fun (y2 : R_f3i) =>
 (.ite y2
 (.ret (BR (IntKind.u64.wrap ((x.snd.n : Nat) : Int)) x.fst.K))
 (.ret false)))))
theorem sd_f38 (x : X_f38) : (tt_f38 x).AH :=
 (TT.sC fun _ => (TT.sI TT.sR (TT.sC fun _ => (TT.sI TT.sR TT.sR))))
def D_f38 : AU X_f38 R_f38 := .of tt_f38
def con_f38 : A3 Tryz.prog :=
 BS 197 J_f38 S_f38 D_f38 2 0 [.any, .any] (lk mxk lbn sd_f38)
abbrev X_f5 : Type := (Sl TIn) × ((Sl TIn))
abbrev R_f5 : Type := Int
def J_f5 : A8 Tryz.prog :=
 BD Tryz.prog Tryz.f202 19 [] [] [] [] [.any] [] [con_f38] R_f5 [] fun y => [(V.int .i64) y]
def S_f5 : AM :=
 Ae Tryz.f202 2 0 X_f5 (fun x => [esl_TIn x.1, (fun x : ((Sl TIn)) => V.fn 197 (V.cons ((C2 esl_TIn) x) (V.unit))) x.2]) fun l => (dsl_TIn (at_ l 0), (fun v => ((C3 dsl_TIn) (fd (fnc v) 0) : ((Sl TIn)))) (at_ l 1))
structure X_f5_2 where
 SG : (Sl TIn)
 f_1 : ((Sl TIn))
 Tc : Int
 Pq : Int
def S_f5_2 : AM :=
 Ad Tryz.f202 2 [(0, hsl_TIn), (1, .any), (7, .any), (8, .any)] [] [] X_f5_2 (fun x => [esl_TIn x.SG, (fun x : ((Sl TIn)) => V.fn 197 (V.cons ((C2 esl_TIn) x) (V.unit))) x.f_1, (V.int .i64) x.Tc, (V.int .i64) x.Pq]) fun l => ⟨dsl_TIn (at_ l 0), (fun v => ((C3 dsl_TIn) (fd (fnc v) 0) : ((Sl TIn)))) (at_ l 1), dI (at_ l 2), dI (at_ l 3)⟩
def tt_f5_2 (D_f5_2 : AU X_f5_2 R_f5) (x : X_f5_2) : TT Tryz.prog R_f5 :=
 (.ite (BR x.Pq x.Tc)
 (.need (Az x.Pq x.SG.n) <|
 (.call con_f38 ((x.SG.get (Int.toNat x.Pq)), x.f_1) fun (y2 : R_f38) =>
 (.ite y2
 (.ret x.Pq)
 (.jump S_f5_2 D_f5_2 (X_f5_2.mk x.SG x.f_1 x.Tc (IntKind.i64.wrap (x.Pq + 1)))))))
 (.ret (-(1 : Int))))
theorem sd_f5_2 (D_f5_2 : AU X_f5_2 R_f5) (x : X_f5_2) : (tt_f5_2 D_f5_2 x).AH :=
 (TT.sI (TT.sN (TT.sC fun _ => (TT.sI TT.sR TT.sJ))) TT.sR)
def D_f5_2 : AU X_f5_2 R_f5 := AU.loop tt_f5_2
theorem ok_f5_2 : AW J_f5 S_f5_2 D_f5_2 :=
 A2 fun D_f5_2 h_2 => lk mxk (lbc h_2 rfl lbn) (sd_f5_2 D_f5_2)
def tt_f5 (x : X_f5) : TT Tryz.prog R_f5 :=
 (.jump S_f5_2 D_f5_2 (X_f5_2.mk x.fst x.snd ((x.fst.n : Nat) : Int) 0))
theorem sd_f5 (x : X_f5) : (tt_f5 x).AH :=
 TT.sJ
def D_f5 : AU X_f5 R_f5 := .of tt_f5
def con_f5 : A3 Tryz.prog :=
 BS 202 J_f5 S_f5 D_f5 2 0 [hsl_TIn, .any] (lk mxk (lbc ok_f5_2 rfl lbn) sd_f5)
abbrev X_fl : Type := (Sl TIn) × ((Sl TIn))
abbrev R_fl : Type := Bool
def J_fl : A8 Tryz.prog :=
 BD Tryz.prog Tryz.f196 9 [(5, 1)] [] [] [] [.any] [] [con_f5] R_fl [] fun y => [V.bool y]
def S_fl : AM :=
 Ae Tryz.f196 2 0 X_fl (fun x => [esl_TIn x.1, (fun x : ((Sl TIn)) => V.fn 197 (V.cons ((C2 esl_TIn) x) (V.unit))) x.2]) fun l => (dsl_TIn (at_ l 0), (fun v => ((C3 dsl_TIn) (fd (fnc v) 0) : ((Sl TIn)))) (at_ l 1))
def tt_fl (x : X_fl) : TT Tryz.prog R_fl :=
 (.call con_f5 x fun (y1 : R_f5) =>
 (.ret (BW 0 y1)))
theorem sd_fl (x : X_fl) : (tt_fl x).AH :=
 (TT.sC fun _ => TT.sR)
def D_fl : AU X_fl R_fl := .of tt_fl
def con_fl : A3 Tryz.prog :=
 BS 196 J_fl S_fl D_fl 2 0 [hsl_TIn, .any] (lk mxk lbn sd_fl)
abbrev X_f3n : Type := (Sl TIn)
abbrev R_f3n : Type := Bool
def J_f3n : A8 Tryz.prog :=
 BD Tryz.prog Tryz.f177 10 [(1, 3)] [] [] [] [.any] [] [con_fl] R_f3n [] fun y => [V.bool y]
def S_f3n : AM :=
 Ae Tryz.f177 1 0 X_f3n (fun x => [esl_TIn x]) fun l => (dsl_TIn (at_ l 0))
def tt_f3n (x : X_f3n) : TT Tryz.prog R_f3n :=
 (.ite (BR 256 ((x.n : Nat) : Int))
 (.ret false)
 (.call con_fl (x, x) fun (y1 : R_fl) =>
 (.ret (!y1))))
theorem sd_f3n (x : X_f3n) : (tt_f3n x).AH :=
 (TT.sI TT.sR (TT.sC fun _ => TT.sR))
def D_f3n : AU X_f3n R_f3n := .of tt_f3n
def con_f3n : A3 Tryz.prog :=
 BS 177 J_f3n S_f3n D_f3n 1 0 [hsl_TIn] (lk mxk lbn sd_f3n)
abbrev X_fu : Type := (Sl TIn) × TTh
abbrev R_fu : Type := Bool
def J_fu : A8 Tryz.prog :=
 BD Tryz.prog Tryz.f146 88 [(3, 3), (62, 1)] [] [] [] [.any] [] [con_f3n] R_fu [] fun y => [V.bool y]
def S_fu : AM :=
 Ae Tryz.f146 2 0 X_fu (fun x => [esl_TIn x.1, e_TTh x.2]) fun l => (dsl_TIn (at_ l 0), d_TTh (at_ l 1))
structure X_fu_3 where
 Bf : (Sl TIn)
 Dh : TTh
def S_fu_3 : AM :=
 Ad Tryz.f146 3 [(0, hsl_TIn), (3, .any)] [] [] X_fu_3 (fun x => [esl_TIn x.Bf, (C2 e_TTh) x.Dh]) fun l => ⟨dsl_TIn (at_ l 0), (C3 d_TTh) (at_ l 1)⟩
structure X_fu_7 where
 Bf : (Sl TIn)
 Dh : TTh
def S_fu_7 : AM :=
 Ad Tryz.f146 7 [(0, hsl_TIn), (3, .any)] [] [] X_fu_7 (fun x => [esl_TIn x.Bf, (C2 e_TTh) x.Dh]) fun l => ⟨dsl_TIn (at_ l 0), (C3 d_TTh) (at_ l 1)⟩
def tt_fu_7 (x : X_fu_7) : TT Tryz.prog R_fu :=
 (.need (Az x.Dh.At x.Bf.n) <|
 (.need (Az (IntKind.i64.wrap (x.Dh.Phase - 1)) 2) <|
 (.ite (AX (x.Bf.get (Int.toNat x.Dh.At)).Op (cond (Nat.beq (Int.toNat (IntKind.i64.wrap (x.Dh.Phase - 1))) 0) (18 : Int) (19 : Int)))
 (.ite (AX (x.Bf.get (Int.toNat x.Dh.At)).C x.Dh.Ring)
 (.ret (BR x.Dh.AG 4611686018427387904))
 (.ret false))
 (.ret false))))
theorem sd_fu_7 (x : X_fu_7) : (tt_fu_7 x).AH :=
 (TT.sN (TT.sN (TT.sI (TT.sI TT.sR TT.sR) TT.sR)))
def D_fu_7 : AU X_fu_7 R_fu := .of tt_fu_7
theorem ok_fu_7 : AW J_fu S_fu_7 D_fu_7 :=
 lk mxk lbn sd_fu_7
def tt_fu_3 (x : X_fu_3) : TT Tryz.prog R_fu :=
 (.ite (AX x.Dh.Phase 0)
 (.ite (AX x.Dh.Ring 0)
 (.ret (AX x.Dh.AG 0))
 (.ret false))
 (.ite (!(AX x.Dh.Status 0))
 (.ret false)
 (.ite (AX x.Dh.At ((x.Bf.n : Nat) : Int))
 (.ret false)
 (.jump S_fu_7 D_fu_7 (X_fu_7.mk x.Bf x.Dh)))))
theorem sd_fu_3 (x : X_fu_3) : (tt_fu_3 x).AH :=
 (TT.sI (TT.sI TT.sR TT.sR) (TT.sI TT.sR (TT.sI TT.sR TT.sJ)))
def D_fu_3 : AU X_fu_3 R_fu := .of tt_fu_3
theorem ok_fu_3 : AW J_fu S_fu_3 D_fu_3 :=
 lk mxk (lbc ok_fu_7 rfl lbn) sd_fu_3
def tt_fu (x : X_fu) : TT Tryz.prog R_fu :=
 (.call con_f3n x.fst fun (y1 : R_f3n) =>
 (.ite (!y1)
 (.ret false)
 (.ite (BR x.snd.At 0)
 (.ret false)
 (.ite (BR ((x.fst.n : Nat) : Int) x.snd.At)
 (.ret false)
 (.ite (BR x.snd.Status 0)
 (.ret false)
 (.ite (BR 2 x.snd.Status)
 (.ret false)
 (.ite (BR x.snd.Phase 0)
 (.ret false)
 (.ite (BR 2 x.snd.Phase)
 (.ret false)
 (.jump S_fu_3 D_fu_3 (X_fu_3.mk x.fst x.snd))))))))))
theorem sd_fu (x : X_fu) : (tt_fu x).AH :=
 (TT.sC fun _ => (TT.sI TT.sR (TT.sI TT.sR (TT.sI TT.sR (TT.sI TT.sR (TT.sI TT.sR (TT.sI TT.sR (TT.sI TT.sR TT.sJ))))))))
def D_fu : AU X_fu R_fu := .of tt_fu
def con_fu : A3 Tryz.prog :=
 BS 146 J_fu S_fu D_fu 2 0 [hsl_TIn, sh_TTh] (lk mxk (lbc ok_fu_7 rfl (lbc ok_fu_3 rfl lbn)) sd_fu)
abbrev X_f40 : Type := Int
abbrev R_f40 : Type := Bool
def J_f40 : A8 Tryz.prog :=
 BD Tryz.prog Tryz.f178 9 [] [] [] [] [.any] [] [] R_f40 [] fun y => [V.bool y]
def S_f40 : AM :=
 Ae Tryz.f178 1 0 X_f40 (fun x => [(V.int .i64) x]) fun l => (dI (at_ l 0))
def tt_f40 (x : X_f40) : TT Tryz.prog R_f40 :=
 (.ite (BW 18 x)
 (.ret (BW x 25))
 (.ret false))
theorem sd_f40 (x : X_f40) : (tt_f40 x).AH :=
 (TT.sI TT.sR TT.sR)
def D_f40 : AU X_f40 R_f40 := .of tt_f40
def con_f40 : A3 Tryz.prog :=
 BS 178 J_f40 S_f40 D_f40 1 0 [.any] (lk mxk lbn sd_f40)
abbrev X_f3d : Type := Int × Int
abbrev R_f3d : Type := Int
def J_f3d : A8 Tryz.prog :=
 BD Tryz.prog Tryz.f203 10 [] [] [] [] [.any] [] [] R_f3d [] fun y => [(V.int .u64) y]
def S_f3d : AM :=
 Ae Tryz.f203 2 0 X_f3d (fun x => [(V.int .u64) x.1, (V.int .u64) x.2]) fun l => (dI (at_ l 0), dI (at_ l 1))
def tt_f3d (x : X_f3d) : TT Tryz.prog R_f3d :=
 (.ite (AX x.snd 0)
 (.ret 0)
 (.need (!(AX x.snd 0)) <|
 (.ret (IntKind.u64.wrap (Int.tdiv x.fst x.snd)))))
theorem sd_f3d (x : X_f3d) : (tt_f3d x).AH :=
 (TT.sI TT.sR (TT.sN TT.sR))
def D_f3d : AU X_f3d R_f3d := .of tt_f3d
def con_f3d : A3 Tryz.prog :=
 BS 203 J_f3d S_f3d D_f3d 2 0 [.any, .any] (lk mxk lbn sd_f3d)
abbrev X_f47 : Type := Int × Int
abbrev R_f47 : Type := Int
def J_f47 : A8 Tryz.prog :=
 BD Tryz.prog Tryz.f204 10 [] [] [] [] [.any] [] [] R_f47 [] fun y => [(V.int .u64) y]
def S_f47 : AM :=
 Ae Tryz.f204 2 0 X_f47 (fun x => [(V.int .u64) x.1, (V.int .u64) x.2]) fun l => (dI (at_ l 0), dI (at_ l 1))
def tt_f47 (x : X_f47) : TT Tryz.prog R_f47 :=
 (.ite (AX x.snd 0)
 (.ret 0)
 (.need (!(AX x.snd 0)) <|
 (.ret (Int.tmod x.fst x.snd))))
theorem sd_f47 (x : X_f47) : (tt_f47 x).AH :=
 (TT.sI TT.sR (TT.sN TT.sR))
def D_f47 : AU X_f47 R_f47 := .of tt_f47
def con_f47 : A3 Tryz.prog :=
 BS 204 J_f47 S_f47 D_f47 2 0 [.any, .any] (lk mxk lbn sd_f47)
abbrev X_f4f : Type := Bool
abbrev R_f4f : Type := Int
def J_f4f : A8 Tryz.prog :=
 BD Tryz.prog Tryz.f205 4 [] [] [] [] [.any] [] [] R_f4f [] fun y => [(V.int .u64) y]
def S_f4f : AM :=
 Ae Tryz.f205 1 0 X_f4f (fun x => [V.bool x]) fun l => (dB (at_ l 0))
def tt_f4f (x : X_f4f) : TT Tryz.prog R_f4f :=
 (.ite x
 (.ret 1)
 (.ret 0))
theorem sd_f4f (x : X_f4f) : (tt_f4f x).AH :=
 (TT.sI TT.sR TT.sR)
def D_f4f : AU X_f4f R_f4f := .of tt_f4f
def con_f4f : A3 Tryz.prog :=
 BS 205 J_f4f S_f4f D_f4f 1 0 [.any] (lk mxk lbn sd_f4f)
abbrev X_f4g : Type := Int × Int × Int
abbrev R_f4g : Type := Int × Bool
def J_f4g : A8 Tryz.prog :=
 BD Tryz.prog Tryz.f198 73 [] [] [] [] [.any, .any] [] [con_f4f, con_f3d, con_f47] R_f4g [] fun y => [V.B9 (V.cons ((V.int .u64) y.1) (V.cons (V.bool y.2) (V.unit)))]
def S_f4g : AM :=
 Ae Tryz.f198 3 0 X_f4g (fun x => [(V.int .i64) x.1, (V.int .u64) x.2.1, (V.int .u64) x.2.2]) fun l => (dI (at_ l 0), dI (at_ l 1), dI (at_ l 2))
def tt_f4g (x : X_f4g) : TT Tryz.prog R_f4g :=
 (.ite (AX x.fst 3)
 (.ret ((IntKind.u64.wrap (x.snd.fst + x.snd.snd)), true))
 (.ite (AX x.fst 4)
 (.ret ((IntKind.u64.wrap (x.snd.fst - x.snd.snd)), true))
 (.ite (AX x.fst 5)
 (.ret ((IntKind.u64.wrap (x.snd.fst * x.snd.snd)), true))
 (.ite (AX x.fst 6)
 (.call con_f3d x.snd fun (y1 : R_f3d) =>
 (.ret (y1, true)))
 (.ite (AX x.fst 7)
 (.call con_f47 x.snd fun (y1 : R_f47) =>
 (.ret (y1, true)))
 (.ite (AX x.fst 8)
 (.ret ((Vm.bits .and IntKind.u64 x.snd.fst x.snd.snd), true))
 (.ite (AX x.fst 9)
 (.ret ((Vm.bits .or IntKind.u64 x.snd.fst x.snd.snd), true))
 (.ite (AX x.fst 10)
 (.ret ((Vm.bits .xor IntKind.u64 x.snd.fst x.snd.snd), true))
 (.ite (AX x.fst 11)
 (.ret ((shl IntKind.u64 x.snd.fst (Vm.bits .and IntKind.u64 x.snd.snd 63)), true))
 (.ite (AX x.fst 12)
 (.ret ((shr IntKind.u64 x.snd.fst (Vm.bits .and IntKind.u64 x.snd.snd 63)), true))
 (.ite (AX x.fst 13)
 (.call con_f4f (BR x.snd.fst x.snd.snd) fun (y1 : R_f4f) =>
 (.ret (y1, true)))
 (.ite (AX x.fst 14)
 (.call con_f4f (AX x.snd.fst x.snd.snd) fun (y1 : R_f4f) =>
 (.ret (y1, true)))
 (.ret (0, false))))))))))))))
theorem sd_f4g (x : X_f4g) : (tt_f4g x).AH :=
 (TT.sI TT.sR (TT.sI TT.sR (TT.sI TT.sR (TT.sI (TT.sC fun _ => TT.sR) (TT.sI (TT.sC fun _ => TT.sR) (TT.sI TT.sR (TT.sI TT.sR (TT.sI TT.sR (TT.sI TT.sR (TT.sI TT.sR (TT.sI (TT.sC fun _ => TT.sR) (TT.sI (TT.sC fun _ => TT.sR) TT.sR))))))))))))
def D_f4g : AU X_f4g R_f4g := .of tt_f4g
def con_f4g : A3 Tryz.prog :=
 BS 198 J_f4g S_f4g D_f4g 3 0 [.any, .any, .any] (lk mxk lbn sd_f4g)
abbrev Nu : Type := (Sl Int)
def Nb : Nu → V := (Kn (some 41) 1 (V.int .u64))
def UL : V → Nu := (K5 dI)
def NQ : Sh := (.sl (some 41) 1 (V.int .u64 0))
def e_TTh_6 (x : TTh) : V :=
 V.cons ((V.int .i64) x.At) (V.cons ((V.int .i64) x.Phase) (V.cons ((V.int .i64) x.Ring) (V.cons ((V.int .i64) x.Status) (V.cons ((V.int .u64) x.AG) (V.cons ((Rr 1 8 (V.int .u64)) x.Af) (V.cons (Nb x.Seen) (V.unit)))))))
theorem nu_e_TTh_6 (x : TTh) : (e_TTh_6 x).CU := ⟨trivial, trivial, trivial, trivial, trivial, (fun _ _ => trivial : ∀ y, ((Rr 1 8 (V.int .u64)) y).CU) x.Af, trivial, trivial⟩
def sh_TTh_6 : Sh := (.cons .any (.cons .any (.cons .any (.cons .any (.cons .any (.cons .any (.cons NQ .any)))))))
abbrev X_f39 : Type := TIn × TTh
abbrev R_f39 : Type := TTh
def J_f39 : A8 Tryz.prog :=
 BD Tryz.prog Tryz.f179 90 [(2, 3), (17, 1)] [] [] [] [] [sh_TTh_6] [con_f4g] R_f39 [] fun y => [V.B9 (V.unit), e_TTh_6 y]
def S_f39 : AM :=
 Ae Tryz.f179 2 1 X_f39 (fun x => [e_TIn x.1, (V.ptr (.par 0) []), e_TTh_6 x.2]) fun l => (d_TIn (at_ l 0), d_TTh (at_ l 2))
def tt_f39 (x : X_f39) : TT Tryz.prog R_f39 :=
 (.ite (AX x.fst.Op 1)
 (.need (Az x.fst.A 8) <|
 (.ret (TTh.mk (IntKind.i64.wrap (x.snd.At + 1)) x.snd.Phase x.snd.Ring x.snd.Status x.snd.AG (fun i1 => (cond (Nat.beq i1 (Int.toNat x.fst.A)) x.fst.K (x.snd.Af i1))) x.snd.Seen)))
 (.ite (AX x.fst.Op 2)
 (.need (Az x.fst.B 8) <|
 (.need (Az x.fst.A 8) <|
 (.ret (TTh.mk (IntKind.i64.wrap (x.snd.At + 1)) x.snd.Phase x.snd.Ring x.snd.Status x.snd.AG (fun i1 => (cond (Nat.beq i1 (Int.toNat x.fst.A)) (x.snd.Af (Int.toNat x.fst.B)) (x.snd.Af i1))) x.snd.Seen))))
 (.ite (AX x.fst.Op 15)
 (.ret (TTh.mk (IntKind.i64.wrap x.fst.K) x.snd.Phase x.snd.Ring x.snd.Status x.snd.AG x.snd.Af x.snd.Seen))
 (.ite (AX x.fst.Op 16)
 (.need (Az x.fst.A 8) <|
 (.ite ((AX (x.snd.Af (Int.toNat x.fst.A)) 0) == (AX x.fst.Op 16))
 (.ret (TTh.mk (IntKind.i64.wrap x.fst.K) x.snd.Phase x.snd.Ring x.snd.Status x.snd.AG x.snd.Af x.snd.Seen))
 (.ret (TTh.mk (IntKind.i64.wrap (x.snd.At + 1)) x.snd.Phase x.snd.Ring x.snd.Status x.snd.AG x.snd.Af x.snd.Seen))))
 (.ite (AX x.fst.Op 17)
 (.need (Az x.fst.A 8) <|
 (.ite ((AX (x.snd.Af (Int.toNat x.fst.A)) 0) == (AX x.fst.Op 16))
 (.ret (TTh.mk (IntKind.i64.wrap x.fst.K) x.snd.Phase x.snd.Ring x.snd.Status x.snd.AG x.snd.Af x.snd.Seen))
 (.ret (TTh.mk (IntKind.i64.wrap (x.snd.At + 1)) x.snd.Phase x.snd.Ring x.snd.Status x.snd.AG x.snd.Af x.snd.Seen))))
 (.need (Az x.fst.B 8) <|
 (.need (Az x.fst.C 8) <|
 (.call con_f4g (x.fst.Op, ((x.snd.Af (Int.toNat x.fst.B)), (x.snd.Af (Int.toNat x.fst.C)))) fun (y1 : R_f4g) =>
 (.need (Az x.fst.A 8) <|
 (.ret (TTh.mk (IntKind.i64.wrap (x.snd.At + 1)) x.snd.Phase x.snd.Ring x.snd.Status x.snd.AG (fun i2 => (cond (Nat.beq i2 (Int.toNat x.fst.A)) y1.fst (x.snd.Af i2))) x.snd.Seen)))))))))))
theorem sd_f39 (x : X_f39) : (tt_f39 x).AH :=
 (TT.sI (TT.sN TT.sR) (TT.sI (TT.sN (TT.sN TT.sR)) (TT.sI TT.sR (TT.sI (TT.sN (TT.sI TT.sR TT.sR)) (TT.sI (TT.sN (TT.sI TT.sR TT.sR)) (TT.sN (TT.sN (TT.sC fun _ => (TT.sN TT.sR)))))))))
def D_f39 : AU X_f39 R_f39 := .of tt_f39
def con_f39 : A3 Tryz.prog :=
 BS 179 J_f39 S_f39 D_f39 2 1 [.any, .any] (lk mxk lbn sd_f39)
structure TAk where
 Kind : Int
 Ring : Int
 Mode : Int
 Reader : Int
 AG : Int
 Value : Int
def d_TAk (v : V) : TAk :=
 ⟨dI (fd v 0), dI (fd v 1), dI (fd v 2), dI (fd v 3), dI (fd v 4), dI (fd v 5)⟩
def e_TAk (x : TAk) : V :=
 V.cons ((V.int .i64) x.Kind) (V.cons ((V.int .i64) x.Ring) (V.cons ((V.int .i64) x.Mode) (V.cons ((V.int .i64) x.Reader) (V.cons ((V.int .u64) x.AG) (V.cons ((V.int .u64) x.Value) (V.unit))))))
theorem nu_e_TAk (x : TAk) : (e_TAk x).CU := ⟨trivial, trivial, trivial, trivial, trivial, trivial, trivial⟩
abbrev X_f3o : Type := TIn × TTh
abbrev R_f3o : Type := TAk
def J_f3o : A8 Tryz.prog :=
 BD Tryz.prog Tryz.f181 52 [(2, 3), (3, 3)] [] [] [] [.any] [] [] R_f3o [] fun y => [e_TAk y]
def S_f3o : AM :=
 Ae Tryz.f181 2 0 X_f3o (fun x => [e_TIn x.1, e_TTh x.2]) fun l => (d_TIn (at_ l 0), d_TTh (at_ l 1))
def tt_f3o (x : X_f3o) : TT Tryz.prog R_f3o :=
 (.ite (AX x.fst.Op 18)
 (.need (Az x.fst.A 8) <|
 (.ret (TAk.mk 1 x.fst.C x.fst.D 0 0 (x.snd.Af (Int.toNat x.fst.A)))))
 (.ite (AX x.fst.Op 19)
 (.ret (TAk.mk 2 x.fst.C x.fst.D (IntKind.i64.wrap x.fst.K) 0 0))
 (.ite (AX x.fst.Op 20)
 (.ret (TAk.mk 3 x.fst.C 0 0 0 0))
 (.ite (AX x.fst.Op 21)
 (.ret (TAk.mk 4 0 0 0 0 0))
 (.ite (AX x.fst.Op 22)
 (.ret (TAk.mk 5 0 0 0 0 0))
 (.ite (AX x.fst.Op 23)
 (.ret (TAk.mk 6 0 0 0 0 0))
 (.ite (AX x.fst.Op 24)
 (.need (Az x.fst.A 8) <|
 (.ret (TAk.mk 7 0 0 0 0 (x.snd.Af (Int.toNat x.fst.A)))))
 (.ret (TAk.mk 8 0 0 0 0 0)))))))))
theorem sd_f3o (x : X_f3o) : (tt_f3o x).AH :=
 (TT.sI (TT.sN TT.sR) (TT.sI TT.sR (TT.sI TT.sR (TT.sI TT.sR (TT.sI TT.sR (TT.sI TT.sR (TT.sI (TT.sN TT.sR) TT.sR)))))))
def D_f3o : AU X_f3o R_f3o := .of tt_f3o
def con_f3o : A3 Tryz.prog :=
 BS 181 J_f3o S_f3o D_f3o 2 0 [.any, sh_TTh] (lk mxk lbn sd_f3o)
abbrev X_f8 : Type := (Sl TIn) × TTh
abbrev R_f8 : Type := TTh × TAk
def J_f8 : A8 Tryz.prog :=
 BD Tryz.prog Tryz.f147 97 [(10, 1), (16, 1), (21, 1), (35, 1), (40, 1), (77, 1), (87, 1), (89, 1), (90, 1)] [] [] [] [sh_TTh_6, .any] [] [con_f3g, con_f40, con_f3o, con_f39] R_f8 [] fun y => [V.B9 (V.cons (e_TTh_6 y.1) (V.cons (e_TAk y.2) (V.unit)))]
def S_f8 : AM :=
 Ae Tryz.f147 2 0 X_f8 (fun x => [esl_TIn x.1, e_TTh_6 x.2]) fun l => (dsl_TIn (at_ l 0), d_TTh (at_ l 1))
structure X_f8_8 where
 Bf : (Sl TIn)
 Jy : Int
 A0 : TTh
 Bq : TTh
 A7 : TAk
def S_f8_8 : AM :=
 Ad Tryz.f147 8 [(0, hsl_TIn), (3, .any), (4, .any), (5, .any), (48, .any)] [] [(.loc 3 0, sh_TTh_6), (.loc 4 0, sh_TTh_6), (.loc 5 0, .any)] X_f8_8 (fun x => [esl_TIn x.Bf, (V.ptr (.loc 3 0) []), (V.ptr (.loc 4 0) []), (V.ptr (.loc 5 0) []), (V.int .i64) x.Jy, e_TTh_6 x.A0, e_TTh_6 x.Bq, e_TAk x.A7]) fun l => ⟨dsl_TIn (at_ l 0), dI (at_ l 4), d_TTh (at_ l 5), d_TTh (at_ l 6), d_TAk (at_ l 7)⟩
structure X_f8_10 where
 Bf : (Sl TIn)
 Jy : Int
 A0 : TTh
 Bq : TTh
 A7 : TAk
def S_f8_10 : AM :=
 Ad Tryz.f147 10 [(0, hsl_TIn), (3, .any), (4, .any), (5, .any), (48, .any)] [] [(.loc 3 0, sh_TTh_6), (.loc 4 0, sh_TTh_6), (.loc 5 0, .any)] X_f8_10 (fun x => [esl_TIn x.Bf, (V.ptr (.loc 3 0) []), (V.ptr (.loc 4 0) []), (V.ptr (.loc 5 0) []), (V.int .i64) x.Jy, e_TTh_6 x.A0, e_TTh_6 x.Bq, e_TAk x.A7]) fun l => ⟨dsl_TIn (at_ l 0), dI (at_ l 4), d_TTh (at_ l 5), d_TTh (at_ l 6), d_TAk (at_ l 7)⟩
structure X_f8_11 where
 Bf : (Sl TIn)
 Jy : Int
 A0 : TTh
 Bq : TTh
 A7 : TAk
def S_f8_11 : AM :=
 Ad Tryz.f147 11 [(0, hsl_TIn), (3, .any), (4, .any), (5, .any), (48, .any)] [] [(.loc 3 0, sh_TTh_6), (.loc 4 0, sh_TTh_6), (.loc 5 0, .any)] X_f8_11 (fun x => [esl_TIn x.Bf, (V.ptr (.loc 3 0) []), (V.ptr (.loc 4 0) []), (V.ptr (.loc 5 0) []), (V.int .i64) x.Jy, e_TTh_6 x.A0, e_TTh_6 x.Bq, e_TAk x.A7]) fun l => ⟨dsl_TIn (at_ l 0), dI (at_ l 4), d_TTh (at_ l 5), d_TTh (at_ l 6), d_TAk (at_ l 7)⟩
structure X_f8_12 where
 Bf : (Sl TIn)
 A0 : TTh
 Bq : TTh
 A7 : TAk
def S_f8_12 : AM :=
 Ad Tryz.f147 12 [(0, hsl_TIn), (3, .any), (4, .any), (5, .any)] [] [(.loc 3 0, sh_TTh_6), (.loc 4 0, sh_TTh_6), (.loc 5 0, .any)] X_f8_12 (fun x => [esl_TIn x.Bf, (V.ptr (.loc 3 0) []), (V.ptr (.loc 4 0) []), (V.ptr (.loc 5 0) []), e_TTh_6 x.A0, e_TTh_6 x.Bq, e_TAk x.A7]) fun l => ⟨dsl_TIn (at_ l 0), d_TTh (at_ l 4), d_TTh (at_ l 5), d_TAk (at_ l 6)⟩
def tt_f8_12 (x : X_f8_12) : TT Tryz.prog R_f8 :=
 (.ite (AX x.A0.At ((x.Bf.n : Nat) : Int))
 (.ret (x.A0, (TAk.mk 8 0 0 0 0 0)))
 (.need (Az x.A0.At x.Bf.n) <|
 (.call con_f3g (x.Bf.get (Int.toNat x.A0.At)).Op fun (y1 : R_f3g) =>
 (.ite y1
 (.ret (x.A0, (TAk.mk 9 0 0 0 0 0)))
 (.need (Az x.A0.At x.Bf.n) <|
 (.call con_f3o ((x.Bf.get (Int.toNat x.A0.At)), x.A0) fun (y2 : R_f3o) =>
 (.ret (x.A0, y2))))))))
theorem sd_f8_12 (x : X_f8_12) : (tt_f8_12 x).AH :=
 (TT.sI TT.sR (TT.sN (TT.sC fun _ => (TT.sI TT.sR (TT.sN (TT.sC fun _ => TT.sR))))))
def D_f8_12 : AU X_f8_12 R_f8 := .of tt_f8_12
theorem ok_f8_12 : AW J_f8 S_f8_12 D_f8_12 :=
 lk mxk lbn sd_f8_12
def tt_f8_11 (D_f8_8 : AU X_f8_8 R_f8) (x : X_f8_11) : TT Tryz.prog R_f8 :=
 (.jump S_f8_8 D_f8_8 (X_f8_8.mk x.Bf (IntKind.i64.wrap (x.Jy + 1)) x.A0 x.Bq x.A7))
theorem sd_f8_11 (D_f8_8 : AU X_f8_8 R_f8) (x : X_f8_11) : (tt_f8_11 D_f8_8 x).AH :=
 TT.sJ
def D_f8_11 (D_f8_8 : AU X_f8_8 R_f8) : AU X_f8_11 R_f8 := .of (tt_f8_11 D_f8_8)
theorem ok_f8_11 (D_f8_8 : AU X_f8_8 R_f8) (h_8 : AW J_f8 S_f8_8 D_f8_8) : AW J_f8 S_f8_11 (D_f8_11 D_f8_8) :=
 lk mxk (lbc h_8 rfl (lbc ok_f8_12 rfl lbn)) (sd_f8_11 D_f8_8)
def tt_f8_10 (D_f8_8 : AU X_f8_8 R_f8) (x : X_f8_10) : TT Tryz.prog R_f8 :=
 (.need (Az x.A0.At x.Bf.n) <|
 (.call con_f39 ((x.Bf.get (Int.toNat x.A0.At)), x.A0) fun (y2 : R_f39) =>
 (.jump S_f8_11 (D_f8_11 D_f8_8) (X_f8_11.mk x.Bf x.Jy y2 x.Bq x.A7))))
theorem sd_f8_10 (D_f8_8 : AU X_f8_8 R_f8) (x : X_f8_10) : (tt_f8_10 D_f8_8 x).AH :=
 (TT.sN (TT.sC fun _ => TT.sJ))
def D_f8_10 (D_f8_8 : AU X_f8_8 R_f8) : AU X_f8_10 R_f8 := .of (tt_f8_10 D_f8_8)
theorem ok_f8_10 (D_f8_8 : AU X_f8_8 R_f8) (h_8 : AW J_f8 S_f8_8 D_f8_8) : AW J_f8 S_f8_10 (D_f8_10 D_f8_8) :=
 lk mxk (lbc h_8 rfl (lbc ok_f8_12 rfl (lbc (ok_f8_11 D_f8_8 h_8) rfl lbn))) (sd_f8_10 D_f8_8)
def tt_f8_8 (D_f8_8 : AU X_f8_8 R_f8) (x : X_f8_8) : TT Tryz.prog R_f8 :=
 (.ite (BR x.Jy 256)
 (.ite (AX x.A0.At ((x.Bf.n : Nat) : Int))
 (.jump S_f8_12 D_f8_12 (X_f8_12.mk x.Bf x.A0 x.Bq x.A7))
 (.need (Az x.A0.At x.Bf.n) <|
 (.call con_f40 (x.Bf.get (Int.toNat x.A0.At)).Op fun (y2 : R_f40) =>
 (.ite y2
 (.jump S_f8_12 D_f8_12 (X_f8_12.mk x.Bf x.A0 x.Bq x.A7))
 (.jump S_f8_10 (D_f8_10 D_f8_8) (X_f8_10.mk x.Bf x.Jy x.A0 x.Bq x.A7))))))
 (.jump S_f8_12 D_f8_12 (X_f8_12.mk x.Bf x.A0 x.Bq x.A7)))
theorem sd_f8_8 (D_f8_8 : AU X_f8_8 R_f8) (x : X_f8_8) : (tt_f8_8 D_f8_8 x).AH :=
 (TT.sI (TT.sI TT.sJ (TT.sN (TT.sC fun _ => (TT.sI TT.sJ TT.sJ)))) TT.sJ)
def D_f8_8 : AU X_f8_8 R_f8 := AU.loop tt_f8_8
theorem ok_f8_8 : AW J_f8 S_f8_8 D_f8_8 :=
 A2 fun D_f8_8 h_8 => lk mxk (lbc h_8 rfl (lbc ok_f8_12 rfl (lbc (ok_f8_11 D_f8_8 h_8) rfl (lbc (ok_f8_10 D_f8_8 h_8) rfl lbn)))) (sd_f8_8 D_f8_8)
def tt_f8 (x : X_f8) : TT Tryz.prog R_f8 :=
 (.ite (!(AX x.snd.Status 0))
 (.ret (x.snd, (TAk.mk 0 0 0 0 0 0)))
 (.ite (AX x.snd.Phase 1)
 (.need (Az x.snd.At x.fst.n) <|
 (.need (Az (x.fst.get (Int.toNat x.snd.At)).A 8) <|
 (.ret (x.snd, (TAk.mk 10 x.snd.Ring 0 0 x.snd.AG (x.snd.Af (Int.toNat (x.fst.get (Int.toNat x.snd.At)).A)))))))
 (.ite (AX x.snd.Phase 2)
 (.need (Az x.snd.At x.fst.n) <|
 (.ret (x.snd, (TAk.mk 11 x.snd.Ring 0 (IntKind.i64.wrap (x.fst.get (Int.toNat x.snd.At)).K) x.snd.AG 0))))
 (.jump S_f8_8 D_f8_8 (X_f8_8.mk x.fst 0 x.snd (TTh.mk 0 0 0 0 0 (fun i1 => (0 : Int)) (Sl.mk true 0 (fun i1 => (0 : Int)))) (TAk.mk 0 0 0 0 0 0))))))
theorem sd_f8 (x : X_f8) : (tt_f8 x).AH :=
 (TT.sI TT.sR (TT.sI (TT.sN (TT.sN TT.sR)) (TT.sI (TT.sN TT.sR) TT.sJ)))
def D_f8 : AU X_f8 R_f8 := .of tt_f8
def con_f8 : A3 Tryz.prog :=
 BS 147 J_f8 S_f8 D_f8 2 0 [hsl_TIn, sh_TTh_6] (lk mxk (lbc ok_f8_12 rfl (lbc ok_f8_8 rfl lbn)) sd_f8)
abbrev X_f1y : Type := (Sl Int)
abbrev R_f1y : Type := (Sl Int)
def J_f1y : A8 Tryz.prog :=
 BD Tryz.prog Tryz.f113 8 [(6, 1)] [] [] [.shut 2] [NQ] [] [] R_f1y [] fun y => [Nb y]
def S_f1y : AM :=
 Ae Tryz.f113 1 0 X_f1y (fun x => [EC x]) fun l => (E5 (at_ l 0))
def tt_f1y (x : X_f1y) : TT Tryz.prog R_f1y :=
 (.ite x.nil
 (.ret (Sl.mk true 0 (fun i1 => (0 : Int))))
 (.need (true && (room ((0 : Nat) + x.n) 8)) <|
 (.ret (Sl.mk (cond (Nat.beq x.n 0) false false) ((0 : Nat) + x.n) (fun i1 => (cond (Nat.blt i1 0) (0 : Int) (x.get (i1 - 0))))))))
theorem sd_f1y (x : X_f1y) : (tt_f1y x).AH :=
 (TT.sI TT.sR (TT.sN TT.sR))
def D_f1y : AU X_f1y R_f1y := .of tt_f1y
def con_f1y : A3 Tryz.prog :=
 BS 113 J_f1y S_f1y D_f1y 1 0 [EW] (lk mxk lbn sd_f1y)
abbrev X_f3a : Type := (Sl TIn) × TTh
abbrev R_f3a : Type := TTh × TAk × Int
def J_f3a : A8 Tryz.prog :=
 BD Tryz.prog Tryz.f104 26 [(18, 1), (19, 1), (20, 1), (24, 1)] [] [] [] [sh_TTh_6, .any, .any] [] [con_f1y, con_fu, con_f8] R_f3a [] fun y => [V.B9 (V.cons (e_TTh_6 y.1) (V.cons (e_TAk y.2.1) (V.cons ((V.int .i64) y.2.2) (V.unit))))]
def S_f3a : AM :=
 Ae Tryz.f104 2 0 X_f3a (fun x => [esl_TIn x.1, e_TTh x.2]) fun l => (dsl_TIn (at_ l 0), d_TTh (at_ l 1))
def tt_f3a (x : X_f3a) : TT Tryz.prog R_f3a :=
 (.call con_fu x fun (y1 : R_fu) =>
 (.ite (!y1)
 (.ret ((TTh.mk 0 0 0 0 0 (fun i2 => (0 : Int)) (Sl.mk true 0 (fun i2 => (0 : Int)))), ((TAk.mk 0 0 0 0 0 0), 1)))
 (.call con_f1y x.snd.Seen fun (y2 : R_f1y) =>
 (.call con_f8 (x.fst, (TTh.mk x.snd.At x.snd.Phase x.snd.Ring x.snd.Status x.snd.AG x.snd.Af y2)) fun (y3 : R_f8) =>
 (.ret (y3.fst, (y3.snd, 0)))))))
theorem sd_f3a (x : X_f3a) : (tt_f3a x).AH :=
 (TT.sC fun _ => (TT.sI TT.sR (TT.sC fun _ => (TT.sC fun _ => TT.sR))))
def D_f3a : AU X_f3a R_f3a := .of tt_f3a
def con_f3a : A3 Tryz.prog :=
 BS 104 J_f3a S_f3a D_f3a 2 0 [hsl_TIn, sh_TTh] (lk mxk lbn sd_f3a)
abbrev X_f2u : Type := Int
abbrev R_f2u : Type := Int
def J_f2u : A8 Tryz.prog :=
 BD Tryz.prog Tryz.f173 25 [] [] [] [] [.any] [] [] R_f2u [] fun y => [(V.int .i64) y]
def S_f2u : AM :=
 Ae Tryz.f173 1 0 X_f2u (fun x => [(V.int .i64) x]) fun l => (dI (at_ l 0))
def tt_f2u (x : X_f2u) : TT Tryz.prog R_f2u :=
 (.ite (AX x 1)
 (.ret 1)
 (.ite (AX x 2)
 (.ret 10)
 (.ite (AX x 3)
 (.ret 2)
 (.ite (AX x 4)
 (.ret 11)
 (.ite (AX x 8)
 (.ret 4)
 (.ite (AX x 9)
 (.ret 5)
 (.ite (AX x 10)
 (.ret 6)
 (.ite (AX x 11)
 (.ret 6)
 (.ite (AX x 12)
 (.ret 7)
 (.ite (AX x 13)
 (.ret 3)
 (.ite (AX x 14)
 (.ret 8)
 (.ret 9))))))))))))
theorem sd_f2u (x : X_f2u) : (tt_f2u x).AH :=
 (TT.sI TT.sR (TT.sI TT.sR (TT.sI TT.sR (TT.sI TT.sR (TT.sI TT.sR (TT.sI TT.sR (TT.sI TT.sR (TT.sI TT.sR (TT.sI TT.sR (TT.sI TT.sR (TT.sI TT.sR TT.sR)))))))))))
def D_f2u : AU X_f2u R_f2u := .of tt_f2u
def con_f2u : A3 Tryz.prog :=
 BS 173 J_f2u S_f2u D_f2u 1 0 [.any] (lk mxk lbn sd_f2u)
abbrev X_fi : Type := TAk × TEv
abbrev R_fi : Type := Bool
def J_fi : A8 Tryz.prog :=
 BD Tryz.prog Tryz.f141 79 [(2, 3), (3, 3)] [] [] [] [.any] [] [con_f2x, con_f2u] R_fi [] fun y => [V.bool y]
def S_fi : AM :=
 Ae Tryz.f141 2 0 X_fi (fun x => [e_TAk x.1, e_TEv x.2]) fun l => (d_TAk (at_ l 0), d_TEv (at_ l 1))
structure X_fi_3 where
 Ew : TAk
 DB : TEv
def S_fi_3 : AM :=
 Ad Tryz.f141 3 (an [2, 3]) [] [] X_fi_3 (fun x => [(C2 e_TAk) x.Ew, (C2 e_TEv) x.DB]) fun l => ⟨(C3 d_TAk) (at_ l 0), (C3 d_TEv) (at_ l 1)⟩
structure X_fi_4 where
 Ew : TAk
 DB : TEv
 JS : Bool
def S_fi_4 : AM :=
 Ad Tryz.f141 4 (an [2, 3, 5]) [] [] X_fi_4 (fun x => [(C2 e_TAk) x.Ew, (C2 e_TEv) x.DB, V.bool x.JS]) fun l => ⟨(C3 d_TAk) (at_ l 0), (C3 d_TEv) (at_ l 1), dB (at_ l 2)⟩
structure X_fi_16 where
 Ew : TAk
 DB : TEv
def S_fi_16 : AM :=
 Ad Tryz.f141 16 (an [2, 3]) [] [] X_fi_16 (fun x => [(C2 e_TAk) x.Ew, (C2 e_TEv) x.DB]) fun l => ⟨(C3 d_TAk) (at_ l 0), (C3 d_TEv) (at_ l 1)⟩
def tt_fi_16 (x : X_fi_16) : TT Tryz.prog R_fi :=
 (.call con_f2u x.DB.Kind fun (y1 : R_f2u) =>
 (.ret (AX x.Ew.Kind y1)))
theorem sd_fi_16 (x : X_fi_16) : (tt_fi_16 x).AH :=
 (TT.sC fun _ => TT.sR)
def D_fi_16 : AU X_fi_16 R_fi := .of tt_fi_16
theorem ok_fi_16 : AW J_fi S_fi_16 D_fi_16 :=
 lk mxk lbn sd_fi_16
def tt_fi_4 (x : X_fi_4) : TT Tryz.prog R_fi :=
 (.ite (AX x.DB.Kind 5)
 (.ite x.JS
 (.ret (AX x.Ew.Mode 0))
 (.ret false))
 (.ite (AX x.DB.Kind 6)
 (.ret x.JS)
 (.ite (AX x.DB.Kind 7)
 (.ite x.JS
 (.ret (AX x.Ew.Mode 2))
 (.ret false))
 (.ite (AX x.DB.Kind 2)
 (.call con_f2u x.DB.Kind fun (y1 : R_f2u) =>
 (.ite (AX x.Ew.Kind y1)
 (.ret (AX x.Ew.AG x.DB.AG))
 (.ret false)))
 (.ite (AX x.DB.Kind 4)
 (.call con_f2u x.DB.Kind fun (y1 : R_f2u) =>
 (.ite (AX x.Ew.Kind y1)
 (.ret (AX x.Ew.AG x.DB.AG))
 (.ret false)))
 (.ite (AX x.DB.Kind 12)
 (.ite (AX x.Ew.Kind 7)
 (.ret (AX x.Ew.Value x.DB.Value))
 (.ret false))
 (.jump S_fi_16 D_fi_16 (X_fi_16.mk x.Ew x.DB))))))))
theorem sd_fi_4 (x : X_fi_4) : (tt_fi_4 x).AH :=
 (TT.sI (TT.sI TT.sR TT.sR) (TT.sI TT.sR (TT.sI (TT.sI TT.sR TT.sR) (TT.sI (TT.sC fun _ => (TT.sI TT.sR TT.sR)) (TT.sI (TT.sC fun _ => (TT.sI TT.sR TT.sR)) (TT.sI (TT.sI TT.sR TT.sR) TT.sJ))))))
def D_fi_4 : AU X_fi_4 R_fi := .of tt_fi_4
theorem ok_fi_4 : AW J_fi S_fi_4 D_fi_4 :=
 lk mxk (lbc ok_fi_16 rfl lbn) sd_fi_4
def tt_fi_3 (x : X_fi_3) : TT Tryz.prog R_fi :=
 (.ite (AX x.Ew.Kind 1)
 (.jump S_fi_4 D_fi_4 (X_fi_4.mk x.Ew x.DB true))
 (.jump S_fi_4 D_fi_4 (X_fi_4.mk x.Ew x.DB (AX x.Ew.Kind 2))))
theorem sd_fi_3 (x : X_fi_3) : (tt_fi_3 x).AH :=
 (TT.sI TT.sJ TT.sJ)
def D_fi_3 : AU X_fi_3 R_fi := .of tt_fi_3
theorem ok_fi_3 : AW J_fi S_fi_3 D_fi_3 :=
 lk mxk (lbc ok_fi_16 rfl (lbc ok_fi_4 rfl lbn)) sd_fi_3
def tt_fi (x : X_fi) : TT Tryz.prog R_fi :=
 (.call con_f2x x.snd.Kind fun (y1 : R_f2x) =>
 (.ite y1
 (.ite (!(AX x.fst.Ring x.snd.Ring))
 (.ret false)
 (.jump S_fi_3 D_fi_3 (X_fi_3.mk x.fst x.snd)))
 (.jump S_fi_3 D_fi_3 (X_fi_3.mk x.fst x.snd))))
theorem sd_fi (x : X_fi) : (tt_fi x).AH :=
 (TT.sC fun _ => (TT.sI (TT.sI TT.sR TT.sJ) TT.sJ))
def D_fi : AU X_fi R_fi := .of tt_fi
def con_fi : A3 Tryz.prog :=
 BS 141 J_fi S_fi D_fi 2 0 [.any, .any] (lk mxk (lbc ok_fi_16 rfl (lbc ok_fi_4 rfl (lbc ok_fi_3 rfl lbn))) sd_fi)
abbrev X_fn : Type := TIn × TEv × Int × TTh
abbrev R_fn : Type := TTh
def J_fn : A8 Tryz.prog :=
 BD Tryz.prog Tryz.f142 121 [(4, 3), (6, 3), (98, 1)] [] [] [] [] [sh_TTh_6] [] R_fn [] fun y => [V.B9 (V.unit), e_TTh_6 y]
def S_fn : AM :=
 Ae Tryz.f142 4 1 X_fn (fun x => [e_TIn x.1, (V.ptr (.par 0) []), e_TEv x.2.1, (V.int .u64) x.2.2.1, e_TTh_6 x.2.2.2]) fun l => (d_TIn (at_ l 0), d_TEv (at_ l 2), dI (at_ l 3), d_TTh (at_ l 4))
structure X_fn_23 where
 Ah : TTh
def S_fn_23 : AM :=
 Ad Tryz.f142 23 [(1, .any)] [sh_TTh_6] [] X_fn_23 (fun x => [(V.ptr (.par 0) []), e_TTh_6 x.Ah]) fun l => ⟨d_TTh (at_ l 1)⟩
def tt_fn_23 (x : X_fn_23) : TT Tryz.prog R_fn :=
 (.ret (TTh.mk (IntKind.i64.wrap (x.Ah.At + 1)) 0 0 x.Ah.Status 0 x.Ah.Af x.Ah.Seen))
theorem sd_fn_23 (x : X_fn_23) : (tt_fn_23 x).AH :=
 TT.sR
def D_fn_23 : AU X_fn_23 R_fn := .of tt_fn_23
theorem ok_fn_23 : AW J_fn S_fn_23 D_fn_23 :=
 lk mxk lbn sd_fn_23
def tt_fn (x : X_fn) : TT Tryz.prog R_fn :=
 (.ite (AX x.snd.fst.Kind 2)
 (.need (Az x.fst.B 8) <|
 (.jump S_fn_23 D_fn_23 (X_fn_23.mk (TTh.mk x.snd.snd.snd.At x.snd.snd.snd.Phase x.snd.snd.snd.Ring x.snd.snd.snd.Status x.snd.snd.snd.AG (fun i1 => (cond (Nat.beq i1 (Int.toNat x.fst.B)) (0 : Int) (x.snd.snd.snd.Af i1))) x.snd.snd.snd.Seen))))
 (.ite (AX x.snd.fst.Kind 4)
 (.need (Az x.fst.A 8) <|
 (.need (Az x.fst.B 8) <|
 (.jump S_fn_23 D_fn_23 (X_fn_23.mk (TTh.mk x.snd.snd.snd.At x.snd.snd.snd.Phase x.snd.snd.snd.Ring x.snd.snd.snd.Status x.snd.snd.snd.AG (fun i1 => (cond (Nat.beq i1 (Int.toNat x.fst.B)) (0 : Int) (cond (Nat.beq i1 (Int.toNat x.fst.A)) x.snd.snd.fst (x.snd.snd.snd.Af i1)))) x.snd.snd.snd.Seen)))))
 (.ite (AX x.snd.fst.Kind 5)
 (.need (Az x.fst.B 8) <|
 (.jump S_fn_23 D_fn_23 (X_fn_23.mk (TTh.mk x.snd.snd.snd.At x.snd.snd.snd.Phase x.snd.snd.snd.Ring x.snd.snd.snd.Status x.snd.snd.snd.AG (fun i1 => (cond (Nat.beq i1 (Int.toNat x.fst.B)) (1 : Int) (x.snd.snd.snd.Af i1))) x.snd.snd.snd.Seen))))
 (.ite (AX x.snd.fst.Kind 6)
 (.need (Az x.fst.B 8) <|
 (.jump S_fn_23 D_fn_23 (X_fn_23.mk (TTh.mk x.snd.snd.snd.At x.snd.snd.snd.Phase x.snd.snd.snd.Ring x.snd.snd.snd.Status x.snd.snd.snd.AG (fun i1 => (cond (Nat.beq i1 (Int.toNat x.fst.B)) (2 : Int) (x.snd.snd.snd.Af i1))) x.snd.snd.snd.Seen))))
 (.ite (AX x.snd.fst.Kind 7)
 (.need (Az x.fst.B 8) <|
 (.jump S_fn_23 D_fn_23 (X_fn_23.mk (TTh.mk x.snd.snd.snd.At x.snd.snd.snd.Phase x.snd.snd.snd.Ring x.snd.snd.snd.Status x.snd.snd.snd.AG (fun i1 => (cond (Nat.beq i1 (Int.toNat x.fst.B)) (3 : Int) (x.snd.snd.snd.Af i1))) x.snd.snd.snd.Seen))))
 (.ite (AX x.snd.fst.Kind 8)
 (.need (Az x.fst.A 8) <|
 (.jump S_fn_23 D_fn_23 (X_fn_23.mk (TTh.mk x.snd.snd.snd.At x.snd.snd.snd.Phase x.snd.snd.snd.Ring x.snd.snd.snd.Status x.snd.snd.snd.AG (fun i1 => (cond (Nat.beq i1 (Int.toNat x.fst.A)) x.snd.fst.Value (x.snd.snd.snd.Af i1))) x.snd.snd.snd.Seen))))
 (.ite (AX x.snd.fst.Kind 9)
 (.need (Az x.fst.A 8) <|
 (.jump S_fn_23 D_fn_23 (X_fn_23.mk (TTh.mk x.snd.snd.snd.At x.snd.snd.snd.Phase x.snd.snd.snd.Ring x.snd.snd.snd.Status x.snd.snd.snd.AG (fun i1 => (cond (Nat.beq i1 (Int.toNat x.fst.A)) x.snd.fst.Value (x.snd.snd.snd.Af i1))) x.snd.snd.snd.Seen))))
 (.ite (AX x.snd.fst.Kind 10)
 (.need (Az x.fst.A 8) <|
 (.need (Az x.fst.B 8) <|
 (.jump S_fn_23 D_fn_23 (X_fn_23.mk (TTh.mk x.snd.snd.snd.At x.snd.snd.snd.Phase x.snd.snd.snd.Ring x.snd.snd.snd.Status x.snd.snd.snd.AG (fun i1 => (cond (Nat.beq i1 (Int.toNat x.fst.B)) (0 : Int) (cond (Nat.beq i1 (Int.toNat x.fst.A)) x.snd.fst.Value (x.snd.snd.snd.Af i1)))) x.snd.snd.snd.Seen)))))
 (.ite (AX x.snd.fst.Kind 11)
 (.need (Az x.fst.B 8) <|
 (.jump S_fn_23 D_fn_23 (X_fn_23.mk (TTh.mk x.snd.snd.snd.At x.snd.snd.snd.Phase x.snd.snd.snd.Ring x.snd.snd.snd.Status x.snd.snd.snd.AG (fun i1 => (cond (Nat.beq i1 (Int.toNat x.fst.B)) (1 : Int) (x.snd.snd.snd.Af i1))) x.snd.snd.snd.Seen))))
 (.ite (AX x.snd.fst.Kind 12)
 (.need (true && (room (x.snd.snd.snd.Seen.n + 1) 8)) <|
 (.jump S_fn_23 D_fn_23 (X_fn_23.mk (TTh.mk x.snd.snd.snd.At x.snd.snd.snd.Phase x.snd.snd.snd.Ring x.snd.snd.snd.Status x.snd.snd.snd.AG x.snd.snd.snd.Af (Sl.mk (cond (Nat.beq 1 0) x.snd.snd.snd.Seen.nil false) (x.snd.snd.snd.Seen.n + 1) (fun i1 => (cond (Nat.blt i1 x.snd.snd.snd.Seen.n) (x.snd.snd.snd.Seen.get i1) x.snd.fst.Value)))))))
 (.jump S_fn_23 D_fn_23 (X_fn_23.mk x.snd.snd.snd))))))))))))
theorem sd_fn (x : X_fn) : (tt_fn x).AH :=
 (TT.sI (TT.sN TT.sJ) (TT.sI (TT.sN (TT.sN TT.sJ)) (TT.sI (TT.sN TT.sJ) (TT.sI (TT.sN TT.sJ) (TT.sI (TT.sN TT.sJ) (TT.sI (TT.sN TT.sJ) (TT.sI (TT.sN TT.sJ) (TT.sI (TT.sN (TT.sN TT.sJ)) (TT.sI (TT.sN TT.sJ) (TT.sI (TT.sN TT.sJ) TT.sJ))))))))))
def D_fn : AU X_fn R_fn := .of tt_fn
def con_fn : A3 Tryz.prog :=
 BS 142 J_fn S_fn D_fn 4 1 [.any, .any, .any, .any] (lk mxk (lbc ok_fn_23 rfl lbn) sd_fn)
abbrev X_f2a : Type := (Sl TIn) × TTh × TEv × Int
abbrev R_f2a : Type := TTh × Int
def J_f2a : A8 Tryz.prog :=
 BD Tryz.prog Tryz.f98 75 [(6, 3), (12, 1), (42, 1)] [] [] [] [sh_TTh, .any] [] [con_f33, con_f3a, con_fn, con_fi] R_f2a [] fun y => [V.B9 (V.cons (e_TTh y.1) (V.cons ((V.int .i64) y.2) (V.unit)))]
def S_f2a : AM :=
 Ae Tryz.f98 4 0 X_f2a (fun x => [esl_TIn x.1, e_TTh x.2.1, e_TEv x.2.2.1, (V.int .u64) x.2.2.2]) fun l => (dsl_TIn (at_ l 0), d_TTh (at_ l 1), d_TEv (at_ l 2), dI (at_ l 3))
structure X_f2a_8 where
 Bf : (Sl TIn)
 T9 : Int
 Hr : TEv
 A7 : TTh
 Ib : TTh
def S_f2a_8 : AM :=
 Ad Tryz.f98 8 [(0, hsl_TIn), (3, .any), (5, .any), (6, .any), (8, .any)] [] [(.loc 5 0, sh_TTh_6), (.loc 8 0, sh_TTh_6)] X_f2a_8 (fun x => [esl_TIn x.Bf, (V.int .u64) x.T9, (V.ptr (.loc 5 0) []), (C2 e_TEv) x.Hr, (V.ptr (.loc 8 0) []), e_TTh_6 x.A7, e_TTh_6 x.Ib]) fun l => ⟨dsl_TIn (at_ l 0), dI (at_ l 1), (C3 d_TEv) (at_ l 3), d_TTh (at_ l 5), d_TTh (at_ l 6)⟩
def tt_f2a_8 (x : X_f2a_8) : TT Tryz.prog R_f2a :=
 (.ite (AX x.Hr.Kind 1)
 (.ret ((TTh.mk x.A7.At 1 x.Hr.Ring x.A7.Status x.Hr.AG x.A7.Af x.A7.Seen), 0))
 (.ite (AX x.Hr.Kind 3)
 (.ret ((TTh.mk x.A7.At 2 x.Hr.Ring x.A7.Status x.Hr.AG x.A7.Af x.A7.Seen), 0))
 (.ite (AX x.Hr.Kind 14)
 (.ret ((TTh.mk x.A7.At x.A7.Phase x.A7.Ring 1 x.A7.AG x.A7.Af x.A7.Seen), 0))
 (.ite (AX x.Hr.Kind 15)
 (.ret ((TTh.mk x.A7.At x.A7.Phase x.A7.Ring 2 x.A7.AG x.A7.Af x.A7.Seen), 0))
 (.need (Az x.A7.At x.Bf.n) <|
 (.call con_fn ((x.Bf.get (Int.toNat x.A7.At)), (x.Hr, (x.T9, x.A7))) fun (y1 : R_fn) =>
 (.ret (y1, 0))))))))
theorem sd_f2a_8 (x : X_f2a_8) : (tt_f2a_8 x).AH :=
 (TT.sI TT.sR (TT.sI TT.sR (TT.sI TT.sR (TT.sI TT.sR (TT.sN (TT.sC fun _ => TT.sR))))))
def D_f2a_8 : AU X_f2a_8 R_f2a := .of tt_f2a_8
theorem ok_f2a_8 : AW J_f2a S_f2a_8 D_f2a_8 :=
 lk mxk lbn sd_f2a_8
def tt_f2a (x : X_f2a) : TT Tryz.prog R_f2a :=
 (.call con_f3a (x.fst, x.snd.fst) fun (y1 : R_f3a) =>
 (.ite (!(AX y1.snd.snd 0))
 (.ret ((TTh.mk 0 0 0 0 0 (fun i2 => (0 : Int)) (Sl.mk true 0 (fun i2 => (0 : Int)))), y1.snd.snd))
 (.call con_f33 x.snd.snd.fst fun (y2 : R_f33) =>
 (.ite (!y2)
 (.ret ((TTh.mk 0 0 0 0 0 (fun i3 => (0 : Int)) (Sl.mk true 0 (fun i3 => (0 : Int)))), 3))
 (.ite (AX y1.snd.fst.Kind 0)
 (.ret ((TTh.mk 0 0 0 0 0 (fun i3 => (0 : Int)) (Sl.mk true 0 (fun i3 => (0 : Int)))), 11))
 (.call con_fi (y1.snd.fst, x.snd.snd.fst) fun (y3 : R_fi) =>
 (.ite (!y3)
 (.ret ((TTh.mk 0 0 0 0 0 (fun i4 => (0 : Int)) (Sl.mk true 0 (fun i4 => (0 : Int)))), 11))
 (.jump S_f2a_8 D_f2a_8 (X_f2a_8.mk x.fst x.snd.snd.snd x.snd.snd.fst y1.fst (TTh.mk 0 0 0 0 0 (fun i4 => (0 : Int)) (Sl.mk true 0 (fun i4 => (0 : Int)))))))))))))
theorem sd_f2a (x : X_f2a) : (tt_f2a x).AH :=
 (TT.sC fun _ => (TT.sI TT.sR (TT.sC fun _ => (TT.sI TT.sR (TT.sI TT.sR (TT.sC fun _ => (TT.sI TT.sR TT.sJ)))))))
def D_f2a : AU X_f2a R_f2a := .of tt_f2a
def con_f2a : A3 Tryz.prog :=
 BS 98 J_f2a S_f2a D_f2a 4 0 [hsl_TIn, sh_TTh, .any, .any] (lk mxk (lbc ok_f2a_8 rfl lbn) sd_f2a)
abbrev X_f14 : Type := TEv × TFa
abbrev R_f14 : Type := Int
abbrev RR_f14 : Type := Int × TFa
abbrev p_f14 (y : RR_f14) : TFa := y.2
abbrev w_f14 (x : X_f14) : TFa := x.2
def J_f14 : A8 Tryz.prog :=
 BD Tryz.prog Tryz.f56 43 [(3, 3), (20, 1)] [(8, [.back (.loc 33 0)])] [(7, [.IQ (.par 0) [.CC 1 2] 33])] [.back (.loc 33 0)] [.any] [sh_TFa] [con_f33, con_f1f, con_f2a] RR_f14 [(0, [⟨.loc 33 0, .par 0, [.CC 1 2], none, none⟩])] fun y => [(V.int .i64) y.1, e_TFa y.2]
def S_f14 : AM :=
 Ae Tryz.f56 2 1 X_f14 (fun x => [(V.ptr (.par 0) []), e_TEv x.1, e_TFa x.2]) fun l => (d_TEv (at_ l 1), d_TFa (at_ l 2))
def tt_f14 (x : X_f14) : TT Tryz.prog RR_f14 :=
 (.call con_f33 x.fst fun (y1 : R_f33) =>
 (.ite (!y1)
 (.ret (3, x.snd))
 (.call con_f1f (x.fst.Thread, x.snd) fun (y2 : R_f1f) =>
 (.ite (!y2)
 (.ret (5, x.snd))
 (.need (Az x.fst.Thread x.snd.p.AB.n) <|
 (.need (Az x.fst.Thread x.snd.threads.n) <|
 (.need ((Nat.beq x.snd.threads.n x.snd.threads.n) && true) <|
 (.call con_f2a ((x.snd.p.AB.get (Int.toNat x.fst.Thread)), ((x.snd.threads.get ((0 : Nat) + (Int.toNat x.fst.Thread))), (x.fst, 0))) fun (y3 : R_f2a) =>
 (.need ((true && true) && (Nat.beq x.snd.threads.n x.snd.threads.n)) <|
 (.ret (y3.snd, x.snd)))))))))))
theorem sd_f14 (x : X_f14) : (tt_f14 x).AH :=
 (TT.sC fun _ => (TT.sI TT.sR (TT.sC fun _ => (TT.sI TT.sR (TT.sN (TT.sN (TT.sN (TT.sC fun _ => (TT.sN TT.sR)))))))))
theorem roT_f14 (x : X_f14) : TT.Ro p_f14 (w_f14 x) (tt_f14 x) :=
 (TT.rC fun _ => (TT.rI (TT.rR rfl) (TT.rC fun _ => (TT.rI (TT.rR rfl) (TT.rN (TT.rN (TT.rN (TT.rC fun _ => (TT.rN (TT.rR rfl))))))))))
def D_f14 : AU X_f14 R_f14 := .ro (.of tt_f14) (fun y => (y.1)) (fun y x => (y, x.2)) fun x y h => congrArg (fun o => (y.1, o)) (roT_f14 x y h)
def con_f14 : A3 Tryz.prog :=
 C7 56 J_f14 S_f14 (.of tt_f14) D_f14 (fun y x => (y, x.2)) (fun y => (V.int .i64) y) 2 1 [.any, .any] (lk mxk lbn sd_f14) (fun x => ⟨(nu_e_TFa : ∀ y, (e_TFa y).CU) (x.2), trivial⟩)
abbrev X_f17 : Type := Int × TFa
abbrev R_f17 : Type := TAk
abbrev RR_f17 : Type := TAk × TFa
abbrev p_f17 (y : RR_f17) : TFa := y.2
abbrev w_f17 (x : X_f17) : TFa := x.2
def J_f17 : A8 Tryz.prog :=
 BD Tryz.prog Tryz.f59 29 [(8, 1)] [(2, [.back (.loc 20 0)])] [(1, [.IQ (.par 0) [.CC 1 2] 20])] [.back (.loc 20 0)] [.any] [sh_TFa] [con_f3a] RR_f17 [(0, [⟨.loc 20 0, .par 0, [.CC 1 2], none, none⟩])] fun y => [e_TAk y.1, e_TFa y.2]
def S_f17 : AM :=
 Ae Tryz.f59 2 1 X_f17 (fun x => [(V.ptr (.par 0) []), (V.int .i64) x.1, e_TFa x.2]) fun l => (dI (at_ l 1), d_TFa (at_ l 2))
def tt_f17 (x : X_f17) : TT Tryz.prog RR_f17 :=
 (.need (Az x.fst x.snd.p.AB.n) <|
 (.need (Az x.fst x.snd.threads.n) <|
 (.need ((Nat.beq x.snd.threads.n x.snd.threads.n) && true) <|
 (.call con_f3a ((x.snd.p.AB.get (Int.toNat x.fst)), (x.snd.threads.get ((0 : Nat) + (Int.toNat x.fst)))) fun (y1 : R_f3a) =>
 (.need ((true && true) && (Nat.beq x.snd.threads.n x.snd.threads.n)) <|
 (.ret (y1.snd.fst, x.snd)))))))
theorem sd_f17 (x : X_f17) : (tt_f17 x).AH :=
 (TT.sN (TT.sN (TT.sN (TT.sC fun _ => (TT.sN TT.sR)))))
theorem roT_f17 (x : X_f17) : TT.Ro p_f17 (w_f17 x) (tt_f17 x) :=
 (TT.rN (TT.rN (TT.rN (TT.rC fun _ => (TT.rN (TT.rR rfl))))))
def D_f17 : AU X_f17 R_f17 := .ro (.of tt_f17) (fun y => (y.1)) (fun y x => (y, x.2)) fun x y h => congrArg (fun o => (y.1, o)) (roT_f17 x y h)
def con_f17 : A3 Tryz.prog :=
 C7 59 J_f17 S_f17 (.of tt_f17) D_f17 (fun y x => (y, x.2)) (fun y => e_TAk y) 2 1 [.any, .any] (lk mxk lbn sd_f17) (fun x => ⟨(nu_e_TFa : ∀ y, (e_TFa y).CU) (x.2), trivial⟩)
abbrev X_f1c : Type := TRr
abbrev R_f1c : Type := Bool
abbrev RR_f1c : Type := Bool × TRr
abbrev p_f1c (y : RR_f1c) : TRr := y.2
abbrev w_f1c (x : X_f1c) : TRr := x
def J_f1c : A8 Tryz.prog :=
 BD Tryz.prog Tryz.f61 11 [] [] [] [] [.any] [sh_TRr] [] RR_f1c [] fun y => [V.bool y.1, e_TRr y.2]
def S_f1c : AM :=
 Ae Tryz.f61 1 1 X_f1c (fun x => [(V.ptr (.par 0) []), e_TRr x]) fun l => (d_TRr (at_ l 1))
def tt_f1c (x : X_f1c) : TT Tryz.prog RR_f1c :=
 (.ret (x.closed, x))
theorem sd_f1c (x : X_f1c) : (tt_f1c x).AH :=
 TT.sR
theorem roT_f1c (x : X_f1c) : TT.Ro p_f1c (w_f1c x) (tt_f1c x) :=
 (TT.rR rfl)
def D_f1c : AU X_f1c R_f1c := .ro (.of tt_f1c) (fun y => (y.1)) (fun y x => (y, x)) fun x y h => congrArg (fun o => (y.1, o)) (roT_f1c x y h)
def con_f1c : A3 Tryz.prog :=
 C7 61 J_f1c S_f1c (.of tt_f1c) D_f1c (fun y x => (y, x)) (fun y => V.bool y) 1 1 [.any] (lk mxk lbn sd_f1c) (fun x => ⟨(nu_e_TRr : ∀ y, (e_TRr y).CU) (x), trivial⟩)
abbrev X_f4 : Type := (Ar Int)
abbrev R_f4 : Type := Int
abbrev RR_f4 : Type := Int × (Ar Int)
abbrev p_f4 (y : RR_f4) : (Ar Int) := y.2
abbrev w_f4 (x : X_f4) : (Ar Int) := x
def J_f4 : A8 Tryz.prog :=
 BD Tryz.prog Tryz.f182 25 [] [] [] [] [.any] [.any] [] RR_f4 [] fun y => [(V.int .u64) y.1, (Jc 1 (V.int .u64)) y.2]
def S_f4 : AM :=
 Ae Tryz.f182 1 1 X_f4 (fun x => [(V.own (.par 0) [] 1 x.n 0 x.n), (Jc 1 (V.int .u64)) x]) fun l => ((PL dI) (at_ l 1))
structure X_f4_3 where
 Ah : (Ar Int)
def S_f4_3 : AM :=
 Ad Tryz.f182 3 [(0, .any)] [.any] [] X_f4_3 (fun x => [(V.own (.par 0) [] 1 x.Ah.n 0 x.Ah.n), (Jc 1 (V.int .u64)) x.Ah]) fun l => ⟨(PL dI) (at_ l 1)⟩
structure X_f4_5 where
 A0 : Int
 DH : Int
 Ah : (Ar Int)
def S_f4_5 : AM :=
 Ad Tryz.f182 5 (an [0, 3, 4]) [.any] [] X_f4_5 (fun x => [(V.own (.par 0) [] 1 x.Ah.n 0 x.Ah.n), (V.int .u64) x.A0, (V.int .i64) x.DH, (Jc 1 (V.int .u64)) x.Ah]) fun l => ⟨dI (at_ l 1), dI (at_ l 2), (PL dI) (at_ l 3)⟩
abbrev w_f4_3 (x : X_f4_3) : (Ar Int) := (x.Ah)
abbrev w_f4_5 (x : X_f4_5) : (Ar Int) := (x.Ah)
def tt_f4_5 (D_f4_5 : AU X_f4_5 RR_f4) (x : X_f4_5) : TT Tryz.prog RR_f4 :=
 (.ite (BR x.DH ((x.Ah.n : Nat) : Int))
 (.need (Az x.DH x.Ah.n) <|
 (.need ((Nat.beq x.Ah.n x.Ah.n) && true) <|
 (.jump S_f4_5 D_f4_5 (X_f4_5.mk (NP x.A0 (x.Ah.get ((0 : Nat) + (Int.toNat x.DH)))) (IntKind.i64.wrap (x.DH + 1)) x.Ah))))
 (.ret (x.A0, x.Ah)))
theorem sd_f4_5 (D_f4_5 : AU X_f4_5 RR_f4) (x : X_f4_5) : (tt_f4_5 D_f4_5 x).AH :=
 (TT.sI (TT.sN (TT.sN TT.sJ)) TT.sR)
theorem roT_f4_5 (D_f4_5 : AU X_f4_5 RR_f4) (r5 : ∀ x y, D_f4_5.rel x y → p_f4 y = w_f4_5 x) (x : X_f4_5) : TT.Ro p_f4 (w_f4_5 x) (tt_f4_5 D_f4_5 x) :=
 (TT.rI (TT.rN (TT.rN (TT.rJ (r5 _)))) (TT.rR rfl))
def D_f4_5 : AU X_f4_5 RR_f4 := AU.loop tt_f4_5
theorem ok_f4_5 : AW J_f4 S_f4_5 D_f4_5 :=
 A2 fun D_f4_5 h_5 => lk mxk (lbc h_5 rfl lbn) (sd_f4_5 D_f4_5)
theorem ro_f4_5 : ∀ x y, D_f4_5.rel x y → p_f4 y = w_f4_5 x :=
 JY fun D_f4_5 r5 => roT_f4_5 D_f4_5 r5
def tt_f4_3 (x : X_f4_3) : TT Tryz.prog RR_f4 :=
 (.need (Az 0 x.Ah.n) <|
 (.need ((Nat.beq x.Ah.n x.Ah.n) && true) <|
 (.jump S_f4_5 D_f4_5 (X_f4_5.mk (x.Ah.get ((0 : Nat) + (Int.toNat 0))) 1 x.Ah))))
theorem sd_f4_3 (x : X_f4_3) : (tt_f4_3 x).AH :=
 (TT.sN (TT.sN TT.sJ))
theorem roT_f4_3 (x : X_f4_3) : TT.Ro p_f4 (w_f4_3 x) (tt_f4_3 x) :=
 (TT.rN (TT.rN (TT.rJ (ro_f4_5 _))))
def D_f4_3 : AU X_f4_3 RR_f4 := .of tt_f4_3
theorem ok_f4_3 : AW J_f4 S_f4_3 D_f4_3 :=
 lk mxk (lbc ok_f4_5 rfl lbn) sd_f4_3
theorem ro_f4_3 : ∀ x y, D_f4_3.rel x y → p_f4 y = w_f4_3 x :=
 roT_f4_3 
def tt_f4 (x : X_f4) : TT Tryz.prog RR_f4 :=
 (.ite (BR ((x.n : Nat) : Int) 1)
 .fail
 (.jump S_f4_3 D_f4_3 (X_f4_3.mk x)))
theorem sd_f4 (x : X_f4) : (tt_f4 x).AH :=
 (TT.sI TT.OO TT.sJ)
theorem roT_f4 (x : X_f4) : TT.Ro p_f4 (w_f4 x) (tt_f4 x) :=
 (TT.rI TT.SN (TT.rJ (ro_f4_3 _)))
def D_f4 : AU X_f4 R_f4 := .ro (.of tt_f4) (fun y => (y.1)) (fun y x => (y, x)) fun x y h => congrArg (fun o => (y.1, o)) (roT_f4 x y h)
def con_f4 : A3 Tryz.prog :=
 C7 182 J_f4 S_f4 (.of tt_f4) D_f4 (fun y x => (y, x)) (fun y => (V.int .u64) y) 1 1 [.any] (lk mxk (lbc ok_f4_5 rfl (lbc ok_f4_3 rfl lbn)) sd_f4) (fun x => ⟨(fun _ _ => trivial : ∀ y, ((Jc 1 (V.int .u64)) y).CU) (x), trivial⟩)
abbrev X_f1h : Type := TRc
abbrev R_f1h : Type := Int
abbrev RR_f1h : Type := Int × TRc
abbrev p_f1h (y : RR_f1h) : TRc := y.2
abbrev w_f1h (x : X_f1h) : TRc := x
def J_f1h : A8 Tryz.prog :=
 BD Tryz.prog Tryz.f148 8 [] [] [] [.back (.loc 6 0)] [.any] [sh_TRc] [con_f4] RR_f1h [] fun y => [(V.int .u64) y.1, e_TRc y.2]
def S_f1h : AM :=
 Ae Tryz.f148 1 1 X_f1h (fun x => [(V.ptr (.par 0) []), e_TRc x]) fun l => (d_TRc (at_ l 1))
def tt_f1h (x : X_f1h) : TT Tryz.prog RR_f1h :=
 (.call con_f4 (Ar.mk x.AD.n x.AD.get) fun (y1 : R_f4) =>
 (.need ((true && true) && (Nat.beq x.AD.n x.AD.n)) <|
 (.ret (y1, x))))
theorem sd_f1h (x : X_f1h) : (tt_f1h x).AH :=
 (TT.sC fun _ => (TT.sN TT.sR))
theorem roT_f1h (x : X_f1h) : TT.Ro p_f1h (w_f1h x) (tt_f1h x) :=
 (TT.rC fun _ => (TT.rN (TT.rR rfl)))
def D_f1h : AU X_f1h R_f1h := .ro (.of tt_f1h) (fun y => (y.1)) (fun y x => (y, x)) fun x y h => congrArg (fun o => (y.1, o)) (roT_f1h x y h)
def con_f1h : A3 Tryz.prog :=
 C7 148 J_f1h S_f1h (.of tt_f1h) D_f1h (fun y x => (y, x)) (fun y => (V.int .u64) y) 1 1 [.any] (lk mxk lbn sd_f1h) (fun x => ⟨(nu_e_TRc : ∀ y, (e_TRc y).CU) (x), trivial⟩)
abbrev X_f1o : Type := TRr
abbrev R_f1o : Type := Bool
abbrev RR_f1o : Type := Bool × TRr
abbrev p_f1o (y : RR_f1o) : TRr := y.2
abbrev w_f1o (x : X_f1o) : TRr := x
def J_f1o : A8 Tryz.prog :=
 BD Tryz.prog Tryz.f105 22 [] [] [] [] [.any] [sh_TRr] [con_f1h] RR_f1o [] fun y => [V.bool y.1, e_TRr y.2]
def S_f1o : AM :=
 Ae Tryz.f105 1 1 X_f1o (fun x => [(V.ptr (.par 0) []), e_TRr x]) fun l => (d_TRr (at_ l 1))
def tt_f1o (x : X_f1o) : TT Tryz.prog RR_f1o :=
 (.call con_f1h x.AA fun (y1 : R_f1h) =>
 (.ret ((BW x.most (IntKind.u64.wrap (x.AA.tail - y1))), x)))
theorem sd_f1o (x : X_f1o) : (tt_f1o x).AH :=
 (TT.sC fun _ => TT.sR)
theorem roT_f1o (x : X_f1o) : TT.Ro p_f1o (w_f1o x) (tt_f1o x) :=
 (TT.rC fun _ => (TT.rR rfl))
def D_f1o : AU X_f1o R_f1o := .ro (.of tt_f1o) (fun y => (y.1)) (fun y x => (y, x)) fun x y h => congrArg (fun o => (y.1, o)) (roT_f1o x y h)
def con_f1o : A3 Tryz.prog :=
 C7 105 J_f1o S_f1o (.of tt_f1o) D_f1o (fun y x => (y, x)) (fun y => V.bool y) 1 1 [.any] (lk mxk lbn sd_f1o) (fun x => ⟨(nu_e_TRr : ∀ y, (e_TRr y).CU) (x), trivial⟩)
abbrev X_fv : Type := Int × TRc
abbrev R_fv : Type := Bool
abbrev RR_fv : Type := Bool × TRc
abbrev p_fv (y : RR_fv) : TRc := y.2
abbrev w_fv (x : X_fv) : TRc := x.2
def J_fv : A8 Tryz.prog :=
 BD Tryz.prog Tryz.f130 16 [] [] [] [.back (.loc 12 0)] [.any] [sh_TRc] [] RR_fv [] fun y => [V.bool y.1, e_TRc y.2]
def S_fv : AM :=
 Ae Tryz.f130 2 1 X_fv (fun x => [(V.ptr (.par 0) []), (V.int .i64) x.1, e_TRc x.2]) fun l => (dI (at_ l 1), d_TRc (at_ l 2))
def tt_fv (x : X_fv) : TT Tryz.prog RR_fv :=
 (.ite (BW 0 x.fst)
 (.need ((true && true) && (Nat.beq x.snd.AD.n x.snd.AD.n)) <|
 (.ret ((BR x.fst ((x.snd.AD.n : Nat) : Int)), x.snd)))
 (.ret (false, x.snd)))
theorem sd_fv (x : X_fv) : (tt_fv x).AH :=
 (TT.sI (TT.sN TT.sR) TT.sR)
theorem roT_fv (x : X_fv) : TT.Ro p_fv (w_fv x) (tt_fv x) :=
 (TT.rI (TT.rN (TT.rR rfl)) (TT.rR rfl))
def D_fv : AU X_fv R_fv := .ro (.of tt_fv) (fun y => (y.1)) (fun y x => (y, x.2)) fun x y h => congrArg (fun o => (y.1, o)) (roT_fv x y h)
def con_fv : A3 Tryz.prog :=
 C7 130 J_fv S_fv (.of tt_fv) D_fv (fun y x => (y, x.2)) (fun y => V.bool y) 2 1 [.any, .any] (lk mxk lbn sd_fv) (fun x => ⟨(nu_e_TRc : ∀ y, (e_TRc y).CU) (x.2), trivial⟩)
structure TRc_L1 where
 tail : Int
 AD : Ln
def d_TRc_L1 (v : V) : TRc_L1 :=
 ⟨dI (fd v 0), SH (fd v 1)⟩
def e_TRc_L1_1 (x : TRc_L1) : V :=
 V.cons ((V.int .u64) x.tail) (V.cons ((eLn (.par 1) 41 1) x.AD) (V.unit))
theorem nu_e_TRc_L1_1 (x : TRc_L1) : (e_TRc_L1_1 x).CU := ⟨trivial, trivial, trivial⟩
abbrev X_f11 : Type := Int × TRc_L1 × (Ar Int)
abbrev R_f11 : Type := Bool
abbrev RR_f11 : Type := Bool × TRc_L1 × (Ar Int)
abbrev p_f11 (y : RR_f11) : TRc_L1 × (Ar Int) := y.2
abbrev w_f11 (x : X_f11) : TRc_L1 × (Ar Int) := x.2
def J_f11 : A8 Tryz.prog :=
 BD Tryz.prog Tryz.f130 16 [] [] [] [] [.any] [.any, .any] [] RR_f11 [] fun y => [V.bool y.1, e_TRc_L1_1 y.2.1, (Jc 1 (V.int .u64)) y.2.2]
def S_f11 : AM :=
 Ae Tryz.f130 2 2 X_f11 (fun x => [(V.ptr (.par 0) []), (V.int .i64) x.1, e_TRc_L1_1 x.2.1, (Jc 1 (V.int .u64)) x.2.2]) fun l => (dI (at_ l 1), d_TRc_L1 (at_ l 2), (PL dI) (at_ l 3))
def tt_f11 (x : X_f11) : TT Tryz.prog RR_f11 :=
 (.ite (BW 0 x.fst)
 (.ret ((BR x.fst ((x.snd.fst.AD.n : Nat) : Int)), x.snd))
 (.ret (false, x.snd)))
theorem sd_f11 (x : X_f11) : (tt_f11 x).AH :=
 (TT.sI TT.sR TT.sR)
theorem roT_f11 (x : X_f11) : TT.Ro p_f11 (w_f11 x) (tt_f11 x) :=
 (TT.rI (TT.rR rfl) (TT.rR rfl))
def D_f11 : AU X_f11 R_f11 := .ro (.of tt_f11) (fun y => (y.1)) (fun y x => (y, x.2)) fun x y h => congrArg (fun o => (y.1, o)) (roT_f11 x y h)
def con_f11 : A3 Tryz.prog :=
 C7 130 J_f11 S_f11 (.of tt_f11) D_f11 (fun y x => (y, x.2)) (fun y => V.bool y) 2 2 [.any, .any] (lk mxk lbn sd_f11) (fun x => ⟨(nu_e_TRc_L1_1 : ∀ y, (e_TRc_L1_1 y).CU) (x.2.1), (fun _ _ => trivial : ∀ y, ((Jc 1 (V.int .u64)) y).CU) (x.2.2), trivial⟩)
abbrev X_f1d : Type := Int × TRr
abbrev R_f1d : Type := Bool
abbrev RR_f1d : Type := Bool × TRr
abbrev p_f1d (y : RR_f1d) : TRr := y.2
abbrev w_f1d (x : X_f1d) : TRr := x.2
def J_f1d : A8 Tryz.prog :=
 BD Tryz.prog Tryz.f106 31 [] [] [(1, [.IQ (.par 0) [.CC 0 0, .CC 1 1] 12, .IQ (.par 0) [.CC 0 0, .CC 1 1] 19])] [.back (.loc 19 0), .back (.loc 12 0)] [.any] [sh_TRr] [con_f11] RR_f1d [(0, [⟨.loc 12 0, .par 0, [.CC 0 0, .CC 1 1], none, none⟩, ⟨.loc 19 0, .par 0, [.CC 0 0, .CC 1 1], none, none⟩])] fun y => [V.bool y.1, e_TRr y.2]
def S_f1d : AM :=
 Ae Tryz.f106 2 1 X_f1d (fun x => [(V.ptr (.par 0) []), (V.int .i64) x.1, e_TRr x.2]) fun l => (dI (at_ l 1), d_TRr (at_ l 2))
def tt_f1d (x : X_f1d) : TT Tryz.prog RR_f1d :=
 (.call con_f11 (x.fst, ((TRc_L1.mk x.snd.AA.tail (Ln.mk x.snd.AA.AD.nil x.snd.AA.AD.n)), (Ar.mk x.snd.AA.AD.n x.snd.AA.AD.get))) fun (y1 : R_f11) =>
 (.ite (!y1)
 (.need ((true && true) && (Nat.beq x.snd.AA.AD.n x.snd.AA.AD.n)) <|
 (.ret (true, x.snd)))
 (.need (Az x.fst x.snd.AA.AD.n) <|
 (.need ((Nat.beq x.snd.AA.AD.n x.snd.AA.AD.n) && true) <|
 (.need ((true && true) && (Nat.beq x.snd.AA.AD.n x.snd.AA.AD.n)) <|
 (.ret ((AX (x.snd.AA.AD.get ((0 : Nat) + (Int.toNat x.fst))) x.snd.AA.tail), x.snd)))))))
theorem sd_f1d (x : X_f1d) : (tt_f1d x).AH :=
 (TT.sC fun _ => (TT.sI (TT.sN TT.sR) (TT.sN (TT.sN (TT.sN TT.sR)))))
theorem roT_f1d (x : X_f1d) : TT.Ro p_f1d (w_f1d x) (tt_f1d x) :=
 (TT.rC fun _ => (TT.rI (TT.rN (TT.rR rfl)) (TT.rN (TT.rN (TT.rN (TT.rR rfl))))))
def D_f1d : AU X_f1d R_f1d := .ro (.of tt_f1d) (fun y => (y.1)) (fun y x => (y, x.2)) fun x y h => congrArg (fun o => (y.1, o)) (roT_f1d x y h)
def con_f1d : A3 Tryz.prog :=
 C7 106 J_f1d S_f1d (.of tt_f1d) D_f1d (fun y x => (y, x.2)) (fun y => V.bool y) 2 1 [.any, .any] (lk mxk lbn sd_f1d) (fun x => ⟨(nu_e_TRr : ∀ y, (e_TRr y).CU) (x.2), trivial⟩)
abbrev X_f15 : Type := TAk × TFa
abbrev R_f15 : Type := Bool
abbrev RR_f15 : Type := Bool × TFa
abbrev p_f15 (y : RR_f15) : TFa := y.2
abbrev w_f15 (x : X_f15) : TFa := x.2
def J_f15 : A8 Tryz.prog :=
 BD Tryz.prog Tryz.f60 27 [(3, 3)] [] [(1, [.IQ (.par 0) [.CC 2 3] 9])] [.back (.loc 13 0), .back (.loc 9 0)] [.any] [sh_TFa] [con_f1c, con_f1d, con_f1o] RR_f15 [(0, [⟨.loc 9 0, .par 0, [.CC 2 3], none, none⟩])] fun y => [V.bool y.1, e_TFa y.2]
def S_f15 : AM :=
 Ae Tryz.f60 2 1 X_f15 (fun x => [(V.ptr (.par 0) []), e_TAk x.1, e_TFa x.2]) fun l => (d_TAk (at_ l 1), d_TFa (at_ l 2))
def tt_f15 (x : X_f15) : TT Tryz.prog RR_f15 :=
 (.need (Az x.fst.Ring x.snd.rings.n) <|
 (.need (((Nat.beq x.snd.rings.n x.snd.rings.n) && true) && (!(x.snd.rings.get ((0 : Nat) + (Int.toNat x.fst.Ring))).nil)) <|
 (.ite (AX x.fst.Kind 1)
 (.call con_f1c (x.snd.rings.get ((0 : Nat) + (Int.toNat x.fst.Ring))).x fun (y1 : R_f1c) =>
 (.ite y1
 (.need ((true && true) && (((Nat.beq x.snd.rings.n x.snd.rings.n) && (Nat.blt ((0 : Nat) + (Int.toNat x.fst.Ring)) x.snd.rings.n)) && (!(x.snd.rings.get ((0 : Nat) + (Int.toNat x.fst.Ring))).nil))) <|
 (.side (((fun v : Nat → V => v = v) (fun i2 => (cond (Nat.beq i2 ((0 : Nat) + (Int.toNat x.fst.Ring))) (V.ptr (Id.loc 13 0) List.nil) (V.Ai (x.snd.rings.get i2).nil (V.cons (V.cons (V.int IntKind.u64 (x.snd.rings.get i2).x.AA.tail) (V.cons (V.A1 41 1 (x.snd.rings.get i2).x.AA.AD.nil (x.snd.rings.get i2).x.AA.AD.n (fun i3 => (V.int IntKind.u64 ((x.snd.rings.get i2).x.AA.AD.get i3)))) V.unit)) (V.cons (V.Ai (x.snd.rings.get i2).x.s.nil (V.cons (V.A1 206 3 (x.snd.rings.get i2).x.s.x.l.nil (x.snd.rings.get i2).x.s.x.l.n (fun i3 => (V.cons (V.int IntKind.u64 ((x.snd.rings.get i2).x.s.x.l.get i3).AO) (V.cons (V.int IntKind.u64 ((x.snd.rings.get i2).x.s.x.l.get i3).Value) (V.cons (V.int IntKind.i64 ((x.snd.rings.get i2).x.s.x.l.get i3).Left) V.unit))))) (V.cons (V.int IntKind.i64 (x.snd.rings.get i2).x.s.x.AV) V.unit))) (V.cons (V.int IntKind.u64 (x.snd.rings.get i2).x.most) (V.cons (V.bool (x.snd.rings.get i2).x.closed) V.unit)))))))) ∧ (((fun v : V => v = v) (V.cons (V.cons (V.int IntKind.u64 (x.snd.rings.get ((0 : Nat) + (Int.toNat x.fst.Ring))).x.AA.tail) (V.cons (V.A1 41 1 (x.snd.rings.get ((0 : Nat) + (Int.toNat x.fst.Ring))).x.AA.AD.nil (x.snd.rings.get ((0 : Nat) + (Int.toNat x.fst.Ring))).x.AA.AD.n (fun i2 => (V.int IntKind.u64 ((x.snd.rings.get ((0 : Nat) + (Int.toNat x.fst.Ring))).x.AA.AD.get i2)))) V.unit)) (V.cons (V.Ai (x.snd.rings.get ((0 : Nat) + (Int.toNat x.fst.Ring))).x.s.nil (V.cons (V.A1 206 3 (x.snd.rings.get ((0 : Nat) + (Int.toNat x.fst.Ring))).x.s.x.l.nil (x.snd.rings.get ((0 : Nat) + (Int.toNat x.fst.Ring))).x.s.x.l.n (fun i2 => (V.cons (V.int IntKind.u64 ((x.snd.rings.get ((0 : Nat) + (Int.toNat x.fst.Ring))).x.s.x.l.get i2).AO) (V.cons (V.int IntKind.u64 ((x.snd.rings.get ((0 : Nat) + (Int.toNat x.fst.Ring))).x.s.x.l.get i2).Value) (V.cons (V.int IntKind.i64 ((x.snd.rings.get ((0 : Nat) + (Int.toNat x.fst.Ring))).x.s.x.l.get i2).Left) V.unit))))) (V.cons (V.int IntKind.i64 (x.snd.rings.get ((0 : Nat) + (Int.toNat x.fst.Ring))).x.s.x.AV) V.unit))) (V.cons (V.int IntKind.u64 (x.snd.rings.get ((0 : Nat) + (Int.toNat x.fst.Ring))).x.most) (V.cons (V.bool (x.snd.rings.get ((0 : Nat) + (Int.toNat x.fst.Ring))).x.closed) V.unit))))) ∧ ((fun v : V => v = v) (V.Ai (x.snd.rings.get ((0 : Nat) + (Int.toNat x.fst.Ring))).nil (V.cons (V.cons (V.int IntKind.u64 (x.snd.rings.get ((0 : Nat) + (Int.toNat x.fst.Ring))).x.AA.tail) (V.cons (V.A1 41 1 (x.snd.rings.get ((0 : Nat) + (Int.toNat x.fst.Ring))).x.AA.AD.nil (x.snd.rings.get ((0 : Nat) + (Int.toNat x.fst.Ring))).x.AA.AD.n (fun i2 => (V.int IntKind.u64 ((x.snd.rings.get ((0 : Nat) + (Int.toNat x.fst.Ring))).x.AA.AD.get i2)))) V.unit)) (V.cons (V.Ai (x.snd.rings.get ((0 : Nat) + (Int.toNat x.fst.Ring))).x.s.nil (V.cons (V.A1 206 3 (x.snd.rings.get ((0 : Nat) + (Int.toNat x.fst.Ring))).x.s.x.l.nil (x.snd.rings.get ((0 : Nat) + (Int.toNat x.fst.Ring))).x.s.x.l.n (fun i2 => (V.cons (V.int IntKind.u64 ((x.snd.rings.get ((0 : Nat) + (Int.toNat x.fst.Ring))).x.s.x.l.get i2).AO) (V.cons (V.int IntKind.u64 ((x.snd.rings.get ((0 : Nat) + (Int.toNat x.fst.Ring))).x.s.x.l.get i2).Value) (V.cons (V.int IntKind.i64 ((x.snd.rings.get ((0 : Nat) + (Int.toNat x.fst.Ring))).x.s.x.l.get i2).Left) V.unit))))) (V.cons (V.int IntKind.i64 (x.snd.rings.get ((0 : Nat) + (Int.toNat x.fst.Ring))).x.s.x.AV) V.unit))) (V.cons (V.int IntKind.u64 (x.snd.rings.get ((0 : Nat) + (Int.toNat x.fst.Ring))).x.most) (V.cons (V.bool (x.snd.rings.get ((0 : Nat) + (Int.toNat x.fst.Ring))).x.closed) V.unit)))))))) <|
 (.need ((true && true) && (Nat.beq x.snd.rings.n x.snd.rings.n)) <|
 (.ret (true, x.snd)))))
 (.call con_f1o (x.snd.rings.get ((0 : Nat) + (Int.toNat x.fst.Ring))).x fun (y2 : R_f1o) =>
 (.need ((true && true) && (((Nat.beq x.snd.rings.n x.snd.rings.n) && (Nat.blt ((0 : Nat) + (Int.toNat x.fst.Ring)) x.snd.rings.n)) && (!(x.snd.rings.get ((0 : Nat) + (Int.toNat x.fst.Ring))).nil))) <|
 (.side (((fun v : Nat → V => v = v) (fun i3 => (cond (Nat.beq i3 ((0 : Nat) + (Int.toNat x.fst.Ring))) (V.ptr (Id.loc 13 0) List.nil) (V.Ai (x.snd.rings.get i3).nil (V.cons (V.cons (V.int IntKind.u64 (x.snd.rings.get i3).x.AA.tail) (V.cons (V.A1 41 1 (x.snd.rings.get i3).x.AA.AD.nil (x.snd.rings.get i3).x.AA.AD.n (fun i4 => (V.int IntKind.u64 ((x.snd.rings.get i3).x.AA.AD.get i4)))) V.unit)) (V.cons (V.Ai (x.snd.rings.get i3).x.s.nil (V.cons (V.A1 206 3 (x.snd.rings.get i3).x.s.x.l.nil (x.snd.rings.get i3).x.s.x.l.n (fun i4 => (V.cons (V.int IntKind.u64 ((x.snd.rings.get i3).x.s.x.l.get i4).AO) (V.cons (V.int IntKind.u64 ((x.snd.rings.get i3).x.s.x.l.get i4).Value) (V.cons (V.int IntKind.i64 ((x.snd.rings.get i3).x.s.x.l.get i4).Left) V.unit))))) (V.cons (V.int IntKind.i64 (x.snd.rings.get i3).x.s.x.AV) V.unit))) (V.cons (V.int IntKind.u64 (x.snd.rings.get i3).x.most) (V.cons (V.bool (x.snd.rings.get i3).x.closed) V.unit)))))))) ∧ (((fun v : V => v = v) (V.cons (V.cons (V.int IntKind.u64 (x.snd.rings.get ((0 : Nat) + (Int.toNat x.fst.Ring))).x.AA.tail) (V.cons (V.A1 41 1 (x.snd.rings.get ((0 : Nat) + (Int.toNat x.fst.Ring))).x.AA.AD.nil (x.snd.rings.get ((0 : Nat) + (Int.toNat x.fst.Ring))).x.AA.AD.n (fun i3 => (V.int IntKind.u64 ((x.snd.rings.get ((0 : Nat) + (Int.toNat x.fst.Ring))).x.AA.AD.get i3)))) V.unit)) (V.cons (V.Ai (x.snd.rings.get ((0 : Nat) + (Int.toNat x.fst.Ring))).x.s.nil (V.cons (V.A1 206 3 (x.snd.rings.get ((0 : Nat) + (Int.toNat x.fst.Ring))).x.s.x.l.nil (x.snd.rings.get ((0 : Nat) + (Int.toNat x.fst.Ring))).x.s.x.l.n (fun i3 => (V.cons (V.int IntKind.u64 ((x.snd.rings.get ((0 : Nat) + (Int.toNat x.fst.Ring))).x.s.x.l.get i3).AO) (V.cons (V.int IntKind.u64 ((x.snd.rings.get ((0 : Nat) + (Int.toNat x.fst.Ring))).x.s.x.l.get i3).Value) (V.cons (V.int IntKind.i64 ((x.snd.rings.get ((0 : Nat) + (Int.toNat x.fst.Ring))).x.s.x.l.get i3).Left) V.unit))))) (V.cons (V.int IntKind.i64 (x.snd.rings.get ((0 : Nat) + (Int.toNat x.fst.Ring))).x.s.x.AV) V.unit))) (V.cons (V.int IntKind.u64 (x.snd.rings.get ((0 : Nat) + (Int.toNat x.fst.Ring))).x.most) (V.cons (V.bool (x.snd.rings.get ((0 : Nat) + (Int.toNat x.fst.Ring))).x.closed) V.unit))))) ∧ ((fun v : V => v = v) (V.Ai (x.snd.rings.get ((0 : Nat) + (Int.toNat x.fst.Ring))).nil (V.cons (V.cons (V.int IntKind.u64 (x.snd.rings.get ((0 : Nat) + (Int.toNat x.fst.Ring))).x.AA.tail) (V.cons (V.A1 41 1 (x.snd.rings.get ((0 : Nat) + (Int.toNat x.fst.Ring))).x.AA.AD.nil (x.snd.rings.get ((0 : Nat) + (Int.toNat x.fst.Ring))).x.AA.AD.n (fun i3 => (V.int IntKind.u64 ((x.snd.rings.get ((0 : Nat) + (Int.toNat x.fst.Ring))).x.AA.AD.get i3)))) V.unit)) (V.cons (V.Ai (x.snd.rings.get ((0 : Nat) + (Int.toNat x.fst.Ring))).x.s.nil (V.cons (V.A1 206 3 (x.snd.rings.get ((0 : Nat) + (Int.toNat x.fst.Ring))).x.s.x.l.nil (x.snd.rings.get ((0 : Nat) + (Int.toNat x.fst.Ring))).x.s.x.l.n (fun i3 => (V.cons (V.int IntKind.u64 ((x.snd.rings.get ((0 : Nat) + (Int.toNat x.fst.Ring))).x.s.x.l.get i3).AO) (V.cons (V.int IntKind.u64 ((x.snd.rings.get ((0 : Nat) + (Int.toNat x.fst.Ring))).x.s.x.l.get i3).Value) (V.cons (V.int IntKind.i64 ((x.snd.rings.get ((0 : Nat) + (Int.toNat x.fst.Ring))).x.s.x.l.get i3).Left) V.unit))))) (V.cons (V.int IntKind.i64 (x.snd.rings.get ((0 : Nat) + (Int.toNat x.fst.Ring))).x.s.x.AV) V.unit))) (V.cons (V.int IntKind.u64 (x.snd.rings.get ((0 : Nat) + (Int.toNat x.fst.Ring))).x.most) (V.cons (V.bool (x.snd.rings.get ((0 : Nat) + (Int.toNat x.fst.Ring))).x.closed) V.unit)))))))) <|
 (.need ((true && true) && (Nat.beq x.snd.rings.n x.snd.rings.n)) <|
 (.ret (y2, x.snd))))))))
 (.call con_f1d (x.fst.Reader, (x.snd.rings.get ((0 : Nat) + (Int.toNat x.fst.Ring))).x) fun (y1 : R_f1d) =>
 (.need ((true && true) && (((Nat.beq x.snd.rings.n x.snd.rings.n) && (Nat.blt ((0 : Nat) + (Int.toNat x.fst.Ring)) x.snd.rings.n)) && (!(x.snd.rings.get ((0 : Nat) + (Int.toNat x.fst.Ring))).nil))) <|
 (.side (((fun v : Nat → V => v = v) (fun i2 => (cond (Nat.beq i2 ((0 : Nat) + (Int.toNat x.fst.Ring))) (V.ptr (Id.loc 13 0) List.nil) (V.Ai (x.snd.rings.get i2).nil (V.cons (V.cons (V.int IntKind.u64 (x.snd.rings.get i2).x.AA.tail) (V.cons (V.A1 41 1 (x.snd.rings.get i2).x.AA.AD.nil (x.snd.rings.get i2).x.AA.AD.n (fun i3 => (V.int IntKind.u64 ((x.snd.rings.get i2).x.AA.AD.get i3)))) V.unit)) (V.cons (V.Ai (x.snd.rings.get i2).x.s.nil (V.cons (V.A1 206 3 (x.snd.rings.get i2).x.s.x.l.nil (x.snd.rings.get i2).x.s.x.l.n (fun i3 => (V.cons (V.int IntKind.u64 ((x.snd.rings.get i2).x.s.x.l.get i3).AO) (V.cons (V.int IntKind.u64 ((x.snd.rings.get i2).x.s.x.l.get i3).Value) (V.cons (V.int IntKind.i64 ((x.snd.rings.get i2).x.s.x.l.get i3).Left) V.unit))))) (V.cons (V.int IntKind.i64 (x.snd.rings.get i2).x.s.x.AV) V.unit))) (V.cons (V.int IntKind.u64 (x.snd.rings.get i2).x.most) (V.cons (V.bool (x.snd.rings.get i2).x.closed) V.unit)))))))) ∧ (((fun v : V => v = v) (V.cons (V.cons (V.int IntKind.u64 (x.snd.rings.get ((0 : Nat) + (Int.toNat x.fst.Ring))).x.AA.tail) (V.cons (V.A1 41 1 (x.snd.rings.get ((0 : Nat) + (Int.toNat x.fst.Ring))).x.AA.AD.nil (x.snd.rings.get ((0 : Nat) + (Int.toNat x.fst.Ring))).x.AA.AD.n (fun i2 => (V.int IntKind.u64 ((x.snd.rings.get ((0 : Nat) + (Int.toNat x.fst.Ring))).x.AA.AD.get i2)))) V.unit)) (V.cons (V.Ai (x.snd.rings.get ((0 : Nat) + (Int.toNat x.fst.Ring))).x.s.nil (V.cons (V.A1 206 3 (x.snd.rings.get ((0 : Nat) + (Int.toNat x.fst.Ring))).x.s.x.l.nil (x.snd.rings.get ((0 : Nat) + (Int.toNat x.fst.Ring))).x.s.x.l.n (fun i2 => (V.cons (V.int IntKind.u64 ((x.snd.rings.get ((0 : Nat) + (Int.toNat x.fst.Ring))).x.s.x.l.get i2).AO) (V.cons (V.int IntKind.u64 ((x.snd.rings.get ((0 : Nat) + (Int.toNat x.fst.Ring))).x.s.x.l.get i2).Value) (V.cons (V.int IntKind.i64 ((x.snd.rings.get ((0 : Nat) + (Int.toNat x.fst.Ring))).x.s.x.l.get i2).Left) V.unit))))) (V.cons (V.int IntKind.i64 (x.snd.rings.get ((0 : Nat) + (Int.toNat x.fst.Ring))).x.s.x.AV) V.unit))) (V.cons (V.int IntKind.u64 (x.snd.rings.get ((0 : Nat) + (Int.toNat x.fst.Ring))).x.most) (V.cons (V.bool (x.snd.rings.get ((0 : Nat) + (Int.toNat x.fst.Ring))).x.closed) V.unit))))) ∧ ((fun v : V => v = v) (V.Ai (x.snd.rings.get ((0 : Nat) + (Int.toNat x.fst.Ring))).nil (V.cons (V.cons (V.int IntKind.u64 (x.snd.rings.get ((0 : Nat) + (Int.toNat x.fst.Ring))).x.AA.tail) (V.cons (V.A1 41 1 (x.snd.rings.get ((0 : Nat) + (Int.toNat x.fst.Ring))).x.AA.AD.nil (x.snd.rings.get ((0 : Nat) + (Int.toNat x.fst.Ring))).x.AA.AD.n (fun i2 => (V.int IntKind.u64 ((x.snd.rings.get ((0 : Nat) + (Int.toNat x.fst.Ring))).x.AA.AD.get i2)))) V.unit)) (V.cons (V.Ai (x.snd.rings.get ((0 : Nat) + (Int.toNat x.fst.Ring))).x.s.nil (V.cons (V.A1 206 3 (x.snd.rings.get ((0 : Nat) + (Int.toNat x.fst.Ring))).x.s.x.l.nil (x.snd.rings.get ((0 : Nat) + (Int.toNat x.fst.Ring))).x.s.x.l.n (fun i2 => (V.cons (V.int IntKind.u64 ((x.snd.rings.get ((0 : Nat) + (Int.toNat x.fst.Ring))).x.s.x.l.get i2).AO) (V.cons (V.int IntKind.u64 ((x.snd.rings.get ((0 : Nat) + (Int.toNat x.fst.Ring))).x.s.x.l.get i2).Value) (V.cons (V.int IntKind.i64 ((x.snd.rings.get ((0 : Nat) + (Int.toNat x.fst.Ring))).x.s.x.l.get i2).Left) V.unit))))) (V.cons (V.int IntKind.i64 (x.snd.rings.get ((0 : Nat) + (Int.toNat x.fst.Ring))).x.s.x.AV) V.unit))) (V.cons (V.int IntKind.u64 (x.snd.rings.get ((0 : Nat) + (Int.toNat x.fst.Ring))).x.most) (V.cons (V.bool (x.snd.rings.get ((0 : Nat) + (Int.toNat x.fst.Ring))).x.closed) V.unit)))))))) <|
 (.need ((true && true) && (Nat.beq x.snd.rings.n x.snd.rings.n)) <|
 (.ret (y1, x.snd)))))))))
theorem sd_f15 (x : X_f15) : (tt_f15 x).AH :=
 (TT.sN (TT.sN (TT.sI (TT.sC fun _ => (TT.sI (TT.sN (TT.sS ⟨rfl, ⟨rfl, rfl⟩⟩ (TT.sN TT.sR))) (TT.sC fun _ => (TT.sN (TT.sS ⟨rfl, ⟨rfl, rfl⟩⟩ (TT.sN TT.sR)))))) (TT.sC fun _ => (TT.sN (TT.sS ⟨rfl, ⟨rfl, rfl⟩⟩ (TT.sN TT.sR)))))))
theorem roT_f15 (x : X_f15) : TT.Ro p_f15 (w_f15 x) (tt_f15 x) :=
 (TT.rN (TT.rN (TT.rI (TT.rC fun _ => (TT.rI (TT.rN (TT.rS (TT.rN (TT.rR rfl)))) (TT.rC fun _ => (TT.rN (TT.rS (TT.rN (TT.rR rfl))))))) (TT.rC fun _ => (TT.rN (TT.rS (TT.rN (TT.rR rfl))))))))
def D_f15 : AU X_f15 R_f15 := .ro (.of tt_f15) (fun y => (y.1)) (fun y x => (y, x.2)) fun x y h => congrArg (fun o => (y.1, o)) (roT_f15 x y h)
def con_f15 : A3 Tryz.prog :=
 C7 60 J_f15 S_f15 (.of tt_f15) D_f15 (fun y x => (y, x.2)) (fun y => V.bool y) 2 1 [.any, .any] (lk mxk lbn sd_f15) (fun x => ⟨(nu_e_TFa : ∀ y, (e_TFa y).CU) (x.2), trivial⟩)
abbrev X_f1p : Type := TRr
abbrev R_f1p : Type := Int
abbrev RR_f1p : Type := Int × TRr
abbrev p_f1p (y : RR_f1p) : TRr := y.2
abbrev w_f1p (x : X_f1p) : TRr := x
def J_f1p : A8 Tryz.prog :=
 BD Tryz.prog Tryz.f82 10 [] [] [] [] [.any] [sh_TRr] [] RR_f1p [] fun y => [(V.int .u64) y.1, e_TRr y.2]
def S_f1p : AM :=
 Ae Tryz.f82 1 1 X_f1p (fun x => [(V.ptr (.par 0) []), e_TRr x]) fun l => (d_TRr (at_ l 1))
def tt_f1p (x : X_f1p) : TT Tryz.prog RR_f1p :=
 (.ret (x.AA.tail, x))
theorem sd_f1p (x : X_f1p) : (tt_f1p x).AH :=
 TT.sR
theorem roT_f1p (x : X_f1p) : TT.Ro p_f1p (w_f1p x) (tt_f1p x) :=
 (TT.rR rfl)
def D_f1p : AU X_f1p R_f1p := .ro (.of tt_f1p) (fun y => (y.1)) (fun y x => (y, x)) fun x y h => congrArg (fun o => (y.1, o)) (roT_f1p x y h)
def con_f1p : A3 Tryz.prog :=
 C7 82 J_f1p S_f1p (.of tt_f1p) D_f1p (fun y x => (y, x)) (fun y => (V.int .u64) y) 1 1 [.any] (lk mxk lbn sd_f1p) (fun x => ⟨(nu_e_TRr : ∀ y, (e_TRr y).CU) (x), trivial⟩)
structure TSs_L0 where
 l : Ln
 AV : Int
def d_TSs_L0 (v : V) : TSs_L0 :=
 ⟨SH (fd v 0), dI (fd v 1)⟩
def e_TSs_L0_1 (x : TSs_L0) : V :=
 V.cons ((eLn (.par 1) 206 3) x.l) (V.cons ((V.int .i64) x.AV) (V.unit))
theorem nu_e_TSs_L0_1 (x : TSs_L0) : (e_TSs_L0_1 x).CU := ⟨trivial, trivial, trivial⟩
abbrev X_fs : Type := Int × TSs_L0 × (Ar TSo)
abbrev R_fs : Type := (Nat × Nat)
abbrev RR_fs : Type := (Nat × Nat) × TSs_L0 × (Ar TSo)
abbrev p_fs (y : RR_fs) : TSs_L0 × (Ar TSo) := y.2
abbrev w_fs (x : X_fs) : TSs_L0 × (Ar TSo) := x.2
def J_fs : A8 Tryz.prog :=
 BD Tryz.prog Tryz.f174 18 [] [] [] [.shut 4] [.any] [.any, .any] [] RR_fs [] fun y => [(ePt 1 3) y.1, e_TSs_L0_1 y.2.1, (Jc 3 e_TSo) y.2.2]
def S_fs : AM :=
 Ae Tryz.f174 2 2 X_fs (fun x => [(V.ptr (.par 0) []), (V.int .u64) x.1, e_TSs_L0_1 x.2.1, (Jc 3 e_TSo) x.2.2]) fun l => (dI (at_ l 1), d_TSs_L0 (at_ l 2), (PL d_TSo) (at_ l 3))
def tt_fs (x : X_fs) : TT Tryz.prog RR_fs :=
 (.need (!(AX (IntKind.u64.wrap ((x.snd.fst.l.n : Nat) : Int)) 0)) <|
 (.need (Az (Int.tmod x.fst (IntKind.u64.wrap ((x.snd.fst.l.n : Nat) : Int))) x.snd.fst.l.n) <|
 (.ret ((((0 : Nat) + (Int.toNat (Int.tmod x.fst (IntKind.u64.wrap ((x.snd.fst.l.n : Nat) : Int))))), x.snd.fst.l.n), (x.snd.fst, x.snd.snd)))))
theorem sd_fs (x : X_fs) : (tt_fs x).AH :=
 (TT.sN (TT.sN TT.sR))
theorem roT_fs (x : X_fs) : TT.Ro p_fs (w_fs x) (tt_fs x) :=
 (TT.rN (TT.rN (TT.rR rfl)))
def D_fs : AU X_fs R_fs := .ro (.of tt_fs) (fun y => (y.1)) (fun y x => (y, x.2)) fun x y h => congrArg (fun o => (y.1, o)) (roT_fs x y h)
def con_fs : A3 Tryz.prog :=
 C7 174 J_fs S_fs (.of tt_fs) D_fs (fun y x => (y, x.2)) (fun y => (ePt 1 3) y) 2 2 [.any, .any] (lk mxk lbn sd_fs) (fun x => ⟨(nu_e_TSs_L0_1 : ∀ y, (e_TSs_L0_1 y).CU) (x.2.1), (fun _ _ => (nu_e_TSo) _ : ∀ y, ((Jc 3 e_TSo) y).CU) (x.2.2), trivial⟩)
abbrev X_f1u : Type := Int × TSs
abbrev R_f1u : Type := Bool
abbrev RR_f1u : Type := Bool × TSs
abbrev p_f1u (y : RR_f1u) : TSs := y.2
abbrev w_f1u (x : X_f1u) : TSs := x.2
def J_f1u : A8 Tryz.prog :=
 BD Tryz.prog Tryz.f149 22 [] [] [(1, [.IQ (.par 0) [.CC 0 0] 14])] [.back (.loc 14 0)] [.any] [sh_TSs] [con_fs, con_f2t] RR_f1u [(0, [⟨.loc 14 0, .par 0, [.CC 0 0], none, none⟩])] fun y => [V.bool y.1, e_TSs y.2]
def S_f1u : AM :=
 Ae Tryz.f149 2 1 X_f1u (fun x => [(V.ptr (.par 0) []), (V.int .u64) x.1, e_TSs x.2]) fun l => (dI (at_ l 1), d_TSs (at_ l 2))
def tt_f1u (x : X_f1u) : TT Tryz.prog RR_f1u :=
 (.ite (BR x.fst 4611686018427387904)
 (.call con_fs (x.fst, ((TSs_L0.mk (Ln.mk x.snd.l.nil x.snd.l.n) x.snd.AV), (Ar.mk x.snd.l.n x.snd.l.get))) fun (y1 : R_fs) =>
 (.need ((Nat.beq x.snd.l.n y1.snd) && true) <|
 (.call con_f2t x.fst fun (y2 : R_f2t) =>
 (.need ((true && true) && (Nat.beq x.snd.l.n x.snd.l.n)) <|
 (.ret ((AX (x.snd.l.get y1.fst).AO y2), x.snd))))))
 (.need ((true && true) && (Nat.beq x.snd.l.n x.snd.l.n)) <|
 (.ret (false, x.snd))))
theorem sd_f1u (x : X_f1u) : (tt_f1u x).AH :=
 (TT.sI (TT.sC fun _ => (TT.sN (TT.sC fun _ => (TT.sN TT.sR)))) (TT.sN TT.sR))
theorem roT_f1u (x : X_f1u) : TT.Ro p_f1u (w_f1u x) (tt_f1u x) :=
 (TT.rI (TT.rC fun _ => (TT.rN (TT.rC fun _ => (TT.rN (TT.rR rfl))))) (TT.rN (TT.rR rfl)))
def D_f1u : AU X_f1u R_f1u := .ro (.of tt_f1u) (fun y => (y.1)) (fun y x => (y, x.2)) fun x y h => congrArg (fun o => (y.1, o)) (roT_f1u x y h)
def con_f1u : A3 Tryz.prog :=
 C7 149 J_f1u S_f1u (.of tt_f1u) D_f1u (fun y x => (y, x.2)) (fun y => V.bool y) 2 1 [.any, .any] (lk mxk lbn sd_f1u) (fun x => ⟨(nu_e_TSs : ∀ y, (e_TSs y).CU) (x.2), trivial⟩)
abbrev X_f28 : Type := Int × TRr
abbrev R_f28 : Type := Bool
abbrev RR_f28 : Type := Bool × TRr
abbrev p_f28 (y : RR_f28) : TRr := y.2
abbrev w_f28 (x : X_f28) : TRr := x.2
def J_f28 : A8 Tryz.prog :=
 BD Tryz.prog Tryz.f107 24 [] [] [] [.back (.loc 20 0)] [.any] [sh_TRr] [con_f1u] RR_f28 [] fun y => [V.bool y.1, e_TRr y.2]
def S_f28 : AM :=
 Ae Tryz.f107 2 1 X_f28 (fun x => [(V.ptr (.par 0) []), (V.int .u64) x.1, e_TRr x.2]) fun l => (dI (at_ l 1), d_TRr (at_ l 2))
def tt_f28 (x : X_f28) : TT Tryz.prog RR_f28 :=
 (.ite (BR x.fst x.snd.AA.tail)
 (.need (true && (!x.snd.s.nil)) <|
 (.call con_f1u (x.fst, x.snd.s.x) fun (y1 : R_f1u) =>
 (.need ((true && true) && (!x.snd.s.nil)) <|
 (.side ((fun v : V => v = v) (V.cons (V.A1 206 3 x.snd.s.x.l.nil x.snd.s.x.l.n (fun i2 => (V.cons (V.int IntKind.u64 (x.snd.s.x.l.get i2).AO) (V.cons (V.int IntKind.u64 (x.snd.s.x.l.get i2).Value) (V.cons (V.int IntKind.i64 (x.snd.s.x.l.get i2).Left) V.unit))))) (V.cons (V.int IntKind.i64 x.snd.s.x.AV) V.unit))) <|
 (.ret (y1, x.snd))))))
 (.ret (false, x.snd)))
theorem sd_f28 (x : X_f28) : (tt_f28 x).AH :=
 (TT.sI (TT.sN (TT.sC fun _ => (TT.sN (TT.sS rfl TT.sR)))) TT.sR)
theorem roT_f28 (x : X_f28) : TT.Ro p_f28 (w_f28 x) (tt_f28 x) :=
 (TT.rI (TT.rN (TT.rC fun _ => (TT.rN (TT.rS (TT.rR rfl))))) (TT.rR rfl))
def D_f28 : AU X_f28 R_f28 := .ro (.of tt_f28) (fun y => (y.1)) (fun y x => (y, x.2)) fun x y h => congrArg (fun o => (y.1, o)) (roT_f28 x y h)
def con_f28 : A3 Tryz.prog :=
 C7 107 J_f28 S_f28 (.of tt_f28) D_f28 (fun y x => (y, x.2)) (fun y => V.bool y) 2 1 [.any, .any] (lk mxk lbn sd_f28) (fun x => ⟨(nu_e_TRr : ∀ y, (e_TRr y).CU) (x.2), trivial⟩)
abbrev X_fp : Type := Int × TRr
abbrev R_fp : Type := Int
abbrev RR_fp : Type := Int × TRr
abbrev p_fp (y : RR_fp) : TRr := y.2
abbrev w_fp (x : X_fp) : TRr := x.2
def J_fp : A8 Tryz.prog :=
 BD Tryz.prog Tryz.f83 23 [] [] [] [.back (.loc 19 0)] [.any] [sh_TRr] [con_fv] RR_fp [] fun y => [(V.int .u64) y.1, e_TRr y.2]
def S_fp : AM :=
 Ae Tryz.f83 2 1 X_fp (fun x => [(V.ptr (.par 0) []), (V.int .i64) x.1, e_TRr x.2]) fun l => (dI (at_ l 1), d_TRr (at_ l 2))
structure X_fp_3 where
 EL : Int
 Ah : TRr
def S_fp_3 : AM :=
 Ad Tryz.f83 3 (an [0, 1]) [sh_TRr] [] X_fp_3 (fun x => [(V.ptr (.par 0) []), (V.int .i64) x.EL, e_TRr x.Ah]) fun l => ⟨dI (at_ l 1), d_TRr (at_ l 2)⟩
abbrev w_fp_3 (x : X_fp_3) : TRr := (x.Ah)
def tt_fp_3 (x : X_fp_3) : TT Tryz.prog RR_fp :=
 (.need (Az x.EL x.Ah.AA.AD.n) <|
 (.need ((Nat.beq x.Ah.AA.AD.n x.Ah.AA.AD.n) && true) <|
 (.need ((true && true) && (Nat.beq x.Ah.AA.AD.n x.Ah.AA.AD.n)) <|
 (.ret ((x.Ah.AA.AD.get ((0 : Nat) + (Int.toNat x.EL))), x.Ah)))))
theorem sd_fp_3 (x : X_fp_3) : (tt_fp_3 x).AH :=
 (TT.sN (TT.sN (TT.sN TT.sR)))
theorem roT_fp_3 (x : X_fp_3) : TT.Ro p_fp (w_fp_3 x) (tt_fp_3 x) :=
 (TT.rN (TT.rN (TT.rN (TT.rR rfl))))
def D_fp_3 : AU X_fp_3 RR_fp := .of tt_fp_3
theorem ok_fp_3 : AW J_fp S_fp_3 D_fp_3 :=
 lk mxk lbn sd_fp_3
theorem ro_fp_3 : ∀ x y, D_fp_3.rel x y → p_fp y = w_fp_3 x :=
 roT_fp_3 
def tt_fp (x : X_fp) : TT Tryz.prog RR_fp :=
 (.call con_fv (x.fst, x.snd.AA) fun (y1 : R_fv) =>
 (.ite (!y1)
 (.ret (0, x.snd))
 (.jump S_fp_3 D_fp_3 (X_fp_3.mk x.fst x.snd))))
theorem sd_fp (x : X_fp) : (tt_fp x).AH :=
 (TT.sC fun _ => (TT.sI TT.sR TT.sJ))
theorem roT_fp (x : X_fp) : TT.Ro p_fp (w_fp x) (tt_fp x) :=
 (TT.rC fun _ => (TT.rI (TT.rR rfl) (TT.rJ (ro_fp_3 _))))
def D_fp : AU X_fp R_fp := .ro (.of tt_fp) (fun y => (y.1)) (fun y x => (y, x.2)) fun x y h => congrArg (fun o => (y.1, o)) (roT_fp x y h)
def con_fp : A3 Tryz.prog :=
 C7 83 J_fp S_fp (.of tt_fp) D_fp (fun y x => (y, x.2)) (fun y => (V.int .u64) y) 2 1 [.any, .any] (lk mxk (lbc ok_fp_3 rfl lbn) sd_fp) (fun x => ⟨(nu_e_TRr : ∀ y, (e_TRr y).CU) (x.2), trivial⟩)
abbrev X_f3b : Type := Int
abbrev R_f3b : Type := Int
def J_f3b : A8 Tryz.prog :=
 BD Tryz.prog Tryz.f175 6 [] [] [] [] [.any] [] [] R_f3b [] fun y => [(V.int .u64) y]
def S_f3b : AM :=
 Ae Tryz.f175 1 0 X_f3b (fun x => [(V.int .u64) x]) fun l => (dI (at_ l 0))
def tt_f3b (x : X_f3b) : TT Tryz.prog R_f3b :=
 (.ret (IntKind.u64.wrap ((IntKind.u64.wrap ((2 : Int) * x)) + 1)))
theorem sd_f3b (x : X_f3b) : (tt_f3b x).AH :=
 TT.sR
def D_f3b : AU X_f3b R_f3b := .of tt_f3b
def con_f3b : A3 Tryz.prog :=
 BS 175 J_f3b S_f3b D_f3b 1 0 [.any] (lk mxk lbn sd_f3b)
abbrev X_fm : Type := Int × Int × TSs
abbrev R_fm : Type := Int
abbrev RR_fm : Type := Int × TSs
abbrev p_fm (y : RR_fm) : TSs := y.2
abbrev w_fm (x : X_fm) : TSs := x.2.2
def J_fm : A8 Tryz.prog :=
 BD Tryz.prog Tryz.f176 51 [] [(7, [.back (.loc 26 0)]), (10, [.back (.loc 26 0)]), (11, [.back (.loc 26 0)])] [(5, [.IQ (.par 0) [.CC 0 0] 26])] [.back (.loc 26 0)] [.any] [sh_TSs] [con_fs, con_f3b] RR_fm [(0, [⟨.loc 26 0, .par 0, [.CC 0 0], none, none⟩]), (5, [⟨.loc 26 0, .par 0, [.CC 0 0], none, none⟩])] fun y => [(V.int .i64) y.1, e_TSs y.2]
def S_fm : AM :=
 Ae Tryz.f176 3 1 X_fm (fun x => [(V.ptr (.par 0) []), (V.int .i64) x.1, (V.int .u64) x.2.1, e_TSs x.2.2]) fun l => (dI (at_ l 1), dI (at_ l 2), d_TSs (at_ l 3))
structure X_fm_5 where
 EL : Int
 JJ : Int
 Ah : TSs
def S_fm_5 : AM :=
 Ad Tryz.f176 5 (an [0, 1, 2]) [sh_TSs] [] X_fm_5 (fun x => [(V.ptr (.par 0) []), (V.int .i64) x.EL, (V.int .u64) x.JJ, e_TSs x.Ah]) fun l => ⟨dI (at_ l 1), dI (at_ l 2), d_TSs (at_ l 3)⟩
abbrev w_fm_5 (x : X_fm_5) : TSs := (x.Ah)
def tt_fm_5 (x : X_fm_5) : TT Tryz.prog RR_fm :=
 (.call con_fs (x.JJ, ((TSs_L0.mk (Ln.mk x.Ah.l.nil x.Ah.l.n) x.Ah.AV), (Ar.mk x.Ah.l.n x.Ah.l.get))) fun (y1 : R_fs) =>
 (.need ((Nat.beq x.Ah.l.n y1.snd) && true) <|
 (.call con_f3b x.JJ fun (y2 : R_f3b) =>
 (.ite (BR (x.Ah.l.get y1.fst).AO y2)
 (.need ((true && true) && (Nat.beq x.Ah.l.n x.Ah.l.n)) <|
 (.ret (9, x.Ah)))
 (.need ((Nat.beq x.Ah.l.n y1.snd) && true) <|
 (.call con_f3b x.JJ fun (y3 : R_f3b) =>
 (.ite (BR y3 (x.Ah.l.get y1.fst).AO)
 (.need ((true && true) && (Nat.beq x.Ah.l.n x.Ah.l.n)) <|
 (.ret (11, x.Ah)))
 (.need ((Nat.beq x.Ah.l.n y1.snd) && true) <|
 (.need (BW 0 x.EL) <|
 (.ite (AX (Vm.bits .and IntKind.i64 (shr IntKind.i64 (x.Ah.l.get y1.fst).Left x.EL) 1) 0)
 (.need ((true && true) && (Nat.beq x.Ah.l.n x.Ah.l.n)) <|
 (.ret (11, x.Ah)))
 (.need ((true && true) && (Nat.beq x.Ah.l.n x.Ah.l.n)) <|
 (.ret (0, x.Ah)))))))))))))
theorem sd_fm_5 (x : X_fm_5) : (tt_fm_5 x).AH :=
 (TT.sC fun _ => (TT.sN (TT.sC fun _ => (TT.sI (TT.sN TT.sR) (TT.sN (TT.sC fun _ => (TT.sI (TT.sN TT.sR) (TT.sN (TT.sN (TT.sI (TT.sN TT.sR) (TT.sN TT.sR)))))))))))
theorem roT_fm_5 (x : X_fm_5) : TT.Ro p_fm (w_fm_5 x) (tt_fm_5 x) :=
 (TT.rC fun _ => (TT.rN (TT.rC fun _ => (TT.rI (TT.rN (TT.rR rfl)) (TT.rN (TT.rC fun _ => (TT.rI (TT.rN (TT.rR rfl)) (TT.rN (TT.rN (TT.rI (TT.rN (TT.rR rfl)) (TT.rN (TT.rR rfl))))))))))))
def D_fm_5 : AU X_fm_5 RR_fm := .of tt_fm_5
theorem ok_fm_5 : AW J_fm S_fm_5 D_fm_5 :=
 lk mxk lbn sd_fm_5
theorem ro_fm_5 : ∀ x y, D_fm_5.rel x y → p_fm y = w_fm_5 x :=
 roT_fm_5 
def tt_fm (x : X_fm) : TT Tryz.prog RR_fm :=
 (.ite (BW 4611686018427387904 x.snd.fst)
 (.ret (1, x.snd.snd))
 (.ite (BR x.fst 0)
 (.ret (1, x.snd.snd))
 (.ite (BW x.snd.snd.AV x.fst)
 (.ret (1, x.snd.snd))
 (.jump S_fm_5 D_fm_5 (X_fm_5.mk x.fst x.snd.fst x.snd.snd)))))
theorem sd_fm (x : X_fm) : (tt_fm x).AH :=
 (TT.sI TT.sR (TT.sI TT.sR (TT.sI TT.sR TT.sJ)))
theorem roT_fm (x : X_fm) : TT.Ro p_fm (w_fm x) (tt_fm x) :=
 (TT.rI (TT.rR rfl) (TT.rI (TT.rR rfl) (TT.rI (TT.rR rfl) (TT.rJ (ro_fm_5 _)))))
def D_fm : AU X_fm R_fm := .ro (.of tt_fm) (fun y => (y.1)) (fun y x => (y, x.2.2)) fun x y h => congrArg (fun o => (y.1, o)) (roT_fm x y h)
def con_fm : A3 Tryz.prog :=
 C7 176 J_fm S_fm (.of tt_fm) D_fm (fun y x => (y, x.2.2)) (fun y => (V.int .i64) y) 3 1 [.any, .any, .any] (lk mxk (lbc ok_fm_5 rfl lbn) sd_fm) (fun x => ⟨(nu_e_TSs : ∀ y, (e_TSs y).CU) (x.2.2), trivial⟩)
abbrev X_f22 : Type := Int × Int × TSs
abbrev R_f22 : Type := Bool
abbrev RR_f22 : Type := Bool × TSs
abbrev p_f22 (y : RR_f22) : TSs := y.2
abbrev w_f22 (x : X_f22) : TSs := x.2.2
def J_f22 : A8 Tryz.prog :=
 BD Tryz.prog Tryz.f150 12 [] [] [] [] [.any] [sh_TSs] [con_fm] RR_f22 [] fun y => [V.bool y.1, e_TSs y.2]
def S_f22 : AM :=
 Ae Tryz.f150 3 1 X_f22 (fun x => [(V.ptr (.par 0) []), (V.int .i64) x.1, (V.int .u64) x.2.1, e_TSs x.2.2]) fun l => (dI (at_ l 1), dI (at_ l 2), d_TSs (at_ l 3))
def tt_f22 (x : X_f22) : TT Tryz.prog RR_f22 :=
 (.call con_fm x fun (y1 : R_fm) =>
 (.ret ((AX y1 0), x.snd.snd)))
theorem sd_f22 (x : X_f22) : (tt_f22 x).AH :=
 (TT.sC fun _ => TT.sR)
theorem roT_f22 (x : X_f22) : TT.Ro p_f22 (w_f22 x) (tt_f22 x) :=
 (TT.rC fun _ => (TT.rR rfl))
def D_f22 : AU X_f22 R_f22 := .ro (.of tt_f22) (fun y => (y.1)) (fun y x => (y, x.2.2)) fun x y h => congrArg (fun o => (y.1, o)) (roT_f22 x y h)
def con_f22 : A3 Tryz.prog :=
 C7 150 J_f22 S_f22 (.of tt_f22) D_f22 (fun y x => (y, x.2.2)) (fun y => V.bool y) 3 1 [.any, .any, .any] (lk mxk lbn sd_f22) (fun x => ⟨(nu_e_TSs : ∀ y, (e_TSs y).CU) (x.2.2), trivial⟩)
abbrev X_f2f : Type := Int × Int × TRr
abbrev R_f2f : Type := Bool
abbrev RR_f2f : Type := Bool × TRr
abbrev p_f2f (y : RR_f2f) : TRr := y.2
abbrev w_f2f (x : X_f2f) : TRr := x.2.2
def J_f2f : A8 Tryz.prog :=
 BD Tryz.prog Tryz.f108 37 [] [] [] [.back (.loc 32 0), .back (.loc 22 0)] [.any] [sh_TRr] [con_fv, con_f22] RR_f2f [] fun y => [V.bool y.1, e_TRr y.2]
def S_f2f : AM :=
 Ae Tryz.f108 3 1 X_f2f (fun x => [(V.ptr (.par 0) []), (V.int .i64) x.1, (V.int .u64) x.2.1, e_TRr x.2.2]) fun l => (dI (at_ l 1), dI (at_ l 2), d_TRr (at_ l 3))
def tt_f2f (x : X_f2f) : TT Tryz.prog RR_f2f :=
 (.call con_fv (x.fst, x.snd.snd.AA) fun (y1 : R_fv) =>
 (.ite y1
 (.need (Az x.fst x.snd.snd.AA.AD.n) <|
 (.need ((Nat.beq x.snd.snd.AA.AD.n x.snd.snd.AA.AD.n) && true) <|
 (.ite (BR x.snd.fst (x.snd.snd.AA.AD.get ((0 : Nat) + (Int.toNat x.fst))))
 (.need (true && (!x.snd.snd.s.nil)) <|
 (.call con_f22 (x.fst, (x.snd.fst, x.snd.snd.s.x)) fun (y2 : R_f22) =>
 (.need ((true && true) && (!x.snd.snd.s.nil)) <|
 (.side ((fun v : V => v = v) (V.cons (V.A1 206 3 x.snd.snd.s.x.l.nil x.snd.snd.s.x.l.n (fun i3 => (V.cons (V.int IntKind.u64 (x.snd.snd.s.x.l.get i3).AO) (V.cons (V.int IntKind.u64 (x.snd.snd.s.x.l.get i3).Value) (V.cons (V.int IntKind.i64 (x.snd.snd.s.x.l.get i3).Left) V.unit))))) (V.cons (V.int IntKind.i64 x.snd.snd.s.x.AV) V.unit))) <|
 (.need ((true && true) && (Nat.beq x.snd.snd.AA.AD.n x.snd.snd.AA.AD.n)) <|
 (.ret (y2, x.snd.snd)))))))
 (.need ((true && true) && (Nat.beq x.snd.snd.AA.AD.n x.snd.snd.AA.AD.n)) <|
 (.ret (false, x.snd.snd))))))
 (.ret (false, x.snd.snd))))
theorem sd_f2f (x : X_f2f) : (tt_f2f x).AH :=
 (TT.sC fun _ => (TT.sI (TT.sN (TT.sN (TT.sI (TT.sN (TT.sC fun _ => (TT.sN (TT.sS rfl (TT.sN TT.sR))))) (TT.sN TT.sR)))) TT.sR))
theorem roT_f2f (x : X_f2f) : TT.Ro p_f2f (w_f2f x) (tt_f2f x) :=
 (TT.rC fun _ => (TT.rI (TT.rN (TT.rN (TT.rI (TT.rN (TT.rC fun _ => (TT.rN (TT.rS (TT.rN (TT.rR rfl)))))) (TT.rN (TT.rR rfl))))) (TT.rR rfl)))
def D_f2f : AU X_f2f R_f2f := .ro (.of tt_f2f) (fun y => (y.1)) (fun y x => (y, x.2.2)) fun x y h => congrArg (fun o => (y.1, o)) (roT_f2f x y h)
def con_f2f : A3 Tryz.prog :=
 C7 108 J_f2f S_f2f (.of tt_f2f) D_f2f (fun y x => (y, x.2.2)) (fun y => V.bool y) 3 1 [.any, .any, .any] (lk mxk lbn sd_f2f) (fun x => ⟨(nu_e_TRr : ∀ y, (e_TRr y).CU) (x.2.2), trivial⟩)
abbrev X_f1b : Type := TEv × TAk × TFa
abbrev R_f1b : Type := Bool
abbrev RR_f1b : Type := Bool × TFa
abbrev p_f1b (y : RR_f1b) : TFa := y.2
abbrev w_f1b (x : X_f1b) : TFa := x.2.2
def J_f1b : A8 Tryz.prog :=
 BD Tryz.prog Tryz.f62 65 [(4, 3), (5, 3)] [] [(1, [.IQ (.par 0) [.CC 2 3] 11])] [.back (.loc 15 0), .back (.loc 11 0)] [.any] [sh_TFa] [con_f1d, con_f28, con_f1o, con_f2f, con_fp, con_f1p] RR_f1b [(0, [⟨.loc 11 0, .par 0, [.CC 2 3], none, none⟩])] fun y => [V.bool y.1, e_TFa y.2]
def S_f1b : AM :=
 Ae Tryz.f62 3 1 X_f1b (fun x => [(V.ptr (.par 0) []), e_TEv x.1, e_TAk x.2.1, e_TFa x.2.2]) fun l => (d_TEv (at_ l 1), d_TAk (at_ l 2), d_TFa (at_ l 3))
def tt_f1b (x : X_f1b) : TT Tryz.prog RR_f1b :=
 (.need (Az x.fst.Ring x.snd.snd.rings.n) <|
 (.need (((Nat.beq x.snd.snd.rings.n x.snd.snd.rings.n) && true) && (!(x.snd.snd.rings.get ((0 : Nat) + (Int.toNat x.fst.Ring))).nil)) <|
 (.ite (AX x.fst.Kind 1)
 (.call con_f1o (x.snd.snd.rings.get ((0 : Nat) + (Int.toNat x.fst.Ring))).x fun (y1 : R_f1o) =>
 (.ite (!y1)
 (.call con_f1p (x.snd.snd.rings.get ((0 : Nat) + (Int.toNat x.fst.Ring))).x fun (y2 : R_f1p) =>
 (.need ((true && true) && (((Nat.beq x.snd.snd.rings.n x.snd.snd.rings.n) && (Nat.blt ((0 : Nat) + (Int.toNat x.fst.Ring)) x.snd.snd.rings.n)) && (!(x.snd.snd.rings.get ((0 : Nat) + (Int.toNat x.fst.Ring))).nil))) <|
 (.side (((fun v : Nat → V => v = v) (fun i3 => (cond (Nat.beq i3 ((0 : Nat) + (Int.toNat x.fst.Ring))) (V.ptr (Id.loc 15 0) List.nil) (V.Ai (x.snd.snd.rings.get i3).nil (V.cons (V.cons (V.int IntKind.u64 (x.snd.snd.rings.get i3).x.AA.tail) (V.cons (V.A1 41 1 (x.snd.snd.rings.get i3).x.AA.AD.nil (x.snd.snd.rings.get i3).x.AA.AD.n (fun i4 => (V.int IntKind.u64 ((x.snd.snd.rings.get i3).x.AA.AD.get i4)))) V.unit)) (V.cons (V.Ai (x.snd.snd.rings.get i3).x.s.nil (V.cons (V.A1 206 3 (x.snd.snd.rings.get i3).x.s.x.l.nil (x.snd.snd.rings.get i3).x.s.x.l.n (fun i4 => (V.cons (V.int IntKind.u64 ((x.snd.snd.rings.get i3).x.s.x.l.get i4).AO) (V.cons (V.int IntKind.u64 ((x.snd.snd.rings.get i3).x.s.x.l.get i4).Value) (V.cons (V.int IntKind.i64 ((x.snd.snd.rings.get i3).x.s.x.l.get i4).Left) V.unit))))) (V.cons (V.int IntKind.i64 (x.snd.snd.rings.get i3).x.s.x.AV) V.unit))) (V.cons (V.int IntKind.u64 (x.snd.snd.rings.get i3).x.most) (V.cons (V.bool (x.snd.snd.rings.get i3).x.closed) V.unit)))))))) ∧ (((fun v : V => v = v) (V.cons (V.cons (V.int IntKind.u64 (x.snd.snd.rings.get ((0 : Nat) + (Int.toNat x.fst.Ring))).x.AA.tail) (V.cons (V.A1 41 1 (x.snd.snd.rings.get ((0 : Nat) + (Int.toNat x.fst.Ring))).x.AA.AD.nil (x.snd.snd.rings.get ((0 : Nat) + (Int.toNat x.fst.Ring))).x.AA.AD.n (fun i3 => (V.int IntKind.u64 ((x.snd.snd.rings.get ((0 : Nat) + (Int.toNat x.fst.Ring))).x.AA.AD.get i3)))) V.unit)) (V.cons (V.Ai (x.snd.snd.rings.get ((0 : Nat) + (Int.toNat x.fst.Ring))).x.s.nil (V.cons (V.A1 206 3 (x.snd.snd.rings.get ((0 : Nat) + (Int.toNat x.fst.Ring))).x.s.x.l.nil (x.snd.snd.rings.get ((0 : Nat) + (Int.toNat x.fst.Ring))).x.s.x.l.n (fun i3 => (V.cons (V.int IntKind.u64 ((x.snd.snd.rings.get ((0 : Nat) + (Int.toNat x.fst.Ring))).x.s.x.l.get i3).AO) (V.cons (V.int IntKind.u64 ((x.snd.snd.rings.get ((0 : Nat) + (Int.toNat x.fst.Ring))).x.s.x.l.get i3).Value) (V.cons (V.int IntKind.i64 ((x.snd.snd.rings.get ((0 : Nat) + (Int.toNat x.fst.Ring))).x.s.x.l.get i3).Left) V.unit))))) (V.cons (V.int IntKind.i64 (x.snd.snd.rings.get ((0 : Nat) + (Int.toNat x.fst.Ring))).x.s.x.AV) V.unit))) (V.cons (V.int IntKind.u64 (x.snd.snd.rings.get ((0 : Nat) + (Int.toNat x.fst.Ring))).x.most) (V.cons (V.bool (x.snd.snd.rings.get ((0 : Nat) + (Int.toNat x.fst.Ring))).x.closed) V.unit))))) ∧ ((fun v : V => v = v) (V.Ai (x.snd.snd.rings.get ((0 : Nat) + (Int.toNat x.fst.Ring))).nil (V.cons (V.cons (V.int IntKind.u64 (x.snd.snd.rings.get ((0 : Nat) + (Int.toNat x.fst.Ring))).x.AA.tail) (V.cons (V.A1 41 1 (x.snd.snd.rings.get ((0 : Nat) + (Int.toNat x.fst.Ring))).x.AA.AD.nil (x.snd.snd.rings.get ((0 : Nat) + (Int.toNat x.fst.Ring))).x.AA.AD.n (fun i3 => (V.int IntKind.u64 ((x.snd.snd.rings.get ((0 : Nat) + (Int.toNat x.fst.Ring))).x.AA.AD.get i3)))) V.unit)) (V.cons (V.Ai (x.snd.snd.rings.get ((0 : Nat) + (Int.toNat x.fst.Ring))).x.s.nil (V.cons (V.A1 206 3 (x.snd.snd.rings.get ((0 : Nat) + (Int.toNat x.fst.Ring))).x.s.x.l.nil (x.snd.snd.rings.get ((0 : Nat) + (Int.toNat x.fst.Ring))).x.s.x.l.n (fun i3 => (V.cons (V.int IntKind.u64 ((x.snd.snd.rings.get ((0 : Nat) + (Int.toNat x.fst.Ring))).x.s.x.l.get i3).AO) (V.cons (V.int IntKind.u64 ((x.snd.snd.rings.get ((0 : Nat) + (Int.toNat x.fst.Ring))).x.s.x.l.get i3).Value) (V.cons (V.int IntKind.i64 ((x.snd.snd.rings.get ((0 : Nat) + (Int.toNat x.fst.Ring))).x.s.x.l.get i3).Left) V.unit))))) (V.cons (V.int IntKind.i64 (x.snd.snd.rings.get ((0 : Nat) + (Int.toNat x.fst.Ring))).x.s.x.AV) V.unit))) (V.cons (V.int IntKind.u64 (x.snd.snd.rings.get ((0 : Nat) + (Int.toNat x.fst.Ring))).x.most) (V.cons (V.bool (x.snd.snd.rings.get ((0 : Nat) + (Int.toNat x.fst.Ring))).x.closed) V.unit)))))))) <|
 (.need ((true && true) && (Nat.beq x.snd.snd.rings.n x.snd.snd.rings.n)) <|
 (.ret ((AX x.fst.AG y2), x.snd.snd))))))
 (.need ((true && true) && (((Nat.beq x.snd.snd.rings.n x.snd.snd.rings.n) && (Nat.blt ((0 : Nat) + (Int.toNat x.fst.Ring)) x.snd.snd.rings.n)) && (!(x.snd.snd.rings.get ((0 : Nat) + (Int.toNat x.fst.Ring))).nil))) <|
 (.side (((fun v : Nat → V => v = v) (fun i2 => (cond (Nat.beq i2 ((0 : Nat) + (Int.toNat x.fst.Ring))) (V.ptr (Id.loc 15 0) List.nil) (V.Ai (x.snd.snd.rings.get i2).nil (V.cons (V.cons (V.int IntKind.u64 (x.snd.snd.rings.get i2).x.AA.tail) (V.cons (V.A1 41 1 (x.snd.snd.rings.get i2).x.AA.AD.nil (x.snd.snd.rings.get i2).x.AA.AD.n (fun i3 => (V.int IntKind.u64 ((x.snd.snd.rings.get i2).x.AA.AD.get i3)))) V.unit)) (V.cons (V.Ai (x.snd.snd.rings.get i2).x.s.nil (V.cons (V.A1 206 3 (x.snd.snd.rings.get i2).x.s.x.l.nil (x.snd.snd.rings.get i2).x.s.x.l.n (fun i3 => (V.cons (V.int IntKind.u64 ((x.snd.snd.rings.get i2).x.s.x.l.get i3).AO) (V.cons (V.int IntKind.u64 ((x.snd.snd.rings.get i2).x.s.x.l.get i3).Value) (V.cons (V.int IntKind.i64 ((x.snd.snd.rings.get i2).x.s.x.l.get i3).Left) V.unit))))) (V.cons (V.int IntKind.i64 (x.snd.snd.rings.get i2).x.s.x.AV) V.unit))) (V.cons (V.int IntKind.u64 (x.snd.snd.rings.get i2).x.most) (V.cons (V.bool (x.snd.snd.rings.get i2).x.closed) V.unit)))))))) ∧ (((fun v : V => v = v) (V.cons (V.cons (V.int IntKind.u64 (x.snd.snd.rings.get ((0 : Nat) + (Int.toNat x.fst.Ring))).x.AA.tail) (V.cons (V.A1 41 1 (x.snd.snd.rings.get ((0 : Nat) + (Int.toNat x.fst.Ring))).x.AA.AD.nil (x.snd.snd.rings.get ((0 : Nat) + (Int.toNat x.fst.Ring))).x.AA.AD.n (fun i2 => (V.int IntKind.u64 ((x.snd.snd.rings.get ((0 : Nat) + (Int.toNat x.fst.Ring))).x.AA.AD.get i2)))) V.unit)) (V.cons (V.Ai (x.snd.snd.rings.get ((0 : Nat) + (Int.toNat x.fst.Ring))).x.s.nil (V.cons (V.A1 206 3 (x.snd.snd.rings.get ((0 : Nat) + (Int.toNat x.fst.Ring))).x.s.x.l.nil (x.snd.snd.rings.get ((0 : Nat) + (Int.toNat x.fst.Ring))).x.s.x.l.n (fun i2 => (V.cons (V.int IntKind.u64 ((x.snd.snd.rings.get ((0 : Nat) + (Int.toNat x.fst.Ring))).x.s.x.l.get i2).AO) (V.cons (V.int IntKind.u64 ((x.snd.snd.rings.get ((0 : Nat) + (Int.toNat x.fst.Ring))).x.s.x.l.get i2).Value) (V.cons (V.int IntKind.i64 ((x.snd.snd.rings.get ((0 : Nat) + (Int.toNat x.fst.Ring))).x.s.x.l.get i2).Left) V.unit))))) (V.cons (V.int IntKind.i64 (x.snd.snd.rings.get ((0 : Nat) + (Int.toNat x.fst.Ring))).x.s.x.AV) V.unit))) (V.cons (V.int IntKind.u64 (x.snd.snd.rings.get ((0 : Nat) + (Int.toNat x.fst.Ring))).x.most) (V.cons (V.bool (x.snd.snd.rings.get ((0 : Nat) + (Int.toNat x.fst.Ring))).x.closed) V.unit))))) ∧ ((fun v : V => v = v) (V.Ai (x.snd.snd.rings.get ((0 : Nat) + (Int.toNat x.fst.Ring))).nil (V.cons (V.cons (V.int IntKind.u64 (x.snd.snd.rings.get ((0 : Nat) + (Int.toNat x.fst.Ring))).x.AA.tail) (V.cons (V.A1 41 1 (x.snd.snd.rings.get ((0 : Nat) + (Int.toNat x.fst.Ring))).x.AA.AD.nil (x.snd.snd.rings.get ((0 : Nat) + (Int.toNat x.fst.Ring))).x.AA.AD.n (fun i2 => (V.int IntKind.u64 ((x.snd.snd.rings.get ((0 : Nat) + (Int.toNat x.fst.Ring))).x.AA.AD.get i2)))) V.unit)) (V.cons (V.Ai (x.snd.snd.rings.get ((0 : Nat) + (Int.toNat x.fst.Ring))).x.s.nil (V.cons (V.A1 206 3 (x.snd.snd.rings.get ((0 : Nat) + (Int.toNat x.fst.Ring))).x.s.x.l.nil (x.snd.snd.rings.get ((0 : Nat) + (Int.toNat x.fst.Ring))).x.s.x.l.n (fun i2 => (V.cons (V.int IntKind.u64 ((x.snd.snd.rings.get ((0 : Nat) + (Int.toNat x.fst.Ring))).x.s.x.l.get i2).AO) (V.cons (V.int IntKind.u64 ((x.snd.snd.rings.get ((0 : Nat) + (Int.toNat x.fst.Ring))).x.s.x.l.get i2).Value) (V.cons (V.int IntKind.i64 ((x.snd.snd.rings.get ((0 : Nat) + (Int.toNat x.fst.Ring))).x.s.x.l.get i2).Left) V.unit))))) (V.cons (V.int IntKind.i64 (x.snd.snd.rings.get ((0 : Nat) + (Int.toNat x.fst.Ring))).x.s.x.AV) V.unit))) (V.cons (V.int IntKind.u64 (x.snd.snd.rings.get ((0 : Nat) + (Int.toNat x.fst.Ring))).x.most) (V.cons (V.bool (x.snd.snd.rings.get ((0 : Nat) + (Int.toNat x.fst.Ring))).x.closed) V.unit)))))))) <|
 (.need ((true && true) && (Nat.beq x.snd.snd.rings.n x.snd.snd.rings.n)) <|
 (.ret (false, x.snd.snd)))))))
 (.ite (AX x.fst.Kind 2)
 (.call con_f28 (x.fst.AG, (x.snd.snd.rings.get ((0 : Nat) + (Int.toNat x.fst.Ring))).x) fun (y1 : R_f28) =>
 (.need ((true && true) && (((Nat.beq x.snd.snd.rings.n x.snd.snd.rings.n) && (Nat.blt ((0 : Nat) + (Int.toNat x.fst.Ring)) x.snd.snd.rings.n)) && (!(x.snd.snd.rings.get ((0 : Nat) + (Int.toNat x.fst.Ring))).nil))) <|
 (.side (((fun v : Nat → V => v = v) (fun i2 => (cond (Nat.beq i2 ((0 : Nat) + (Int.toNat x.fst.Ring))) (V.ptr (Id.loc 15 0) List.nil) (V.Ai (x.snd.snd.rings.get i2).nil (V.cons (V.cons (V.int IntKind.u64 (x.snd.snd.rings.get i2).x.AA.tail) (V.cons (V.A1 41 1 (x.snd.snd.rings.get i2).x.AA.AD.nil (x.snd.snd.rings.get i2).x.AA.AD.n (fun i3 => (V.int IntKind.u64 ((x.snd.snd.rings.get i2).x.AA.AD.get i3)))) V.unit)) (V.cons (V.Ai (x.snd.snd.rings.get i2).x.s.nil (V.cons (V.A1 206 3 (x.snd.snd.rings.get i2).x.s.x.l.nil (x.snd.snd.rings.get i2).x.s.x.l.n (fun i3 => (V.cons (V.int IntKind.u64 ((x.snd.snd.rings.get i2).x.s.x.l.get i3).AO) (V.cons (V.int IntKind.u64 ((x.snd.snd.rings.get i2).x.s.x.l.get i3).Value) (V.cons (V.int IntKind.i64 ((x.snd.snd.rings.get i2).x.s.x.l.get i3).Left) V.unit))))) (V.cons (V.int IntKind.i64 (x.snd.snd.rings.get i2).x.s.x.AV) V.unit))) (V.cons (V.int IntKind.u64 (x.snd.snd.rings.get i2).x.most) (V.cons (V.bool (x.snd.snd.rings.get i2).x.closed) V.unit)))))))) ∧ (((fun v : V => v = v) (V.cons (V.cons (V.int IntKind.u64 (x.snd.snd.rings.get ((0 : Nat) + (Int.toNat x.fst.Ring))).x.AA.tail) (V.cons (V.A1 41 1 (x.snd.snd.rings.get ((0 : Nat) + (Int.toNat x.fst.Ring))).x.AA.AD.nil (x.snd.snd.rings.get ((0 : Nat) + (Int.toNat x.fst.Ring))).x.AA.AD.n (fun i2 => (V.int IntKind.u64 ((x.snd.snd.rings.get ((0 : Nat) + (Int.toNat x.fst.Ring))).x.AA.AD.get i2)))) V.unit)) (V.cons (V.Ai (x.snd.snd.rings.get ((0 : Nat) + (Int.toNat x.fst.Ring))).x.s.nil (V.cons (V.A1 206 3 (x.snd.snd.rings.get ((0 : Nat) + (Int.toNat x.fst.Ring))).x.s.x.l.nil (x.snd.snd.rings.get ((0 : Nat) + (Int.toNat x.fst.Ring))).x.s.x.l.n (fun i2 => (V.cons (V.int IntKind.u64 ((x.snd.snd.rings.get ((0 : Nat) + (Int.toNat x.fst.Ring))).x.s.x.l.get i2).AO) (V.cons (V.int IntKind.u64 ((x.snd.snd.rings.get ((0 : Nat) + (Int.toNat x.fst.Ring))).x.s.x.l.get i2).Value) (V.cons (V.int IntKind.i64 ((x.snd.snd.rings.get ((0 : Nat) + (Int.toNat x.fst.Ring))).x.s.x.l.get i2).Left) V.unit))))) (V.cons (V.int IntKind.i64 (x.snd.snd.rings.get ((0 : Nat) + (Int.toNat x.fst.Ring))).x.s.x.AV) V.unit))) (V.cons (V.int IntKind.u64 (x.snd.snd.rings.get ((0 : Nat) + (Int.toNat x.fst.Ring))).x.most) (V.cons (V.bool (x.snd.snd.rings.get ((0 : Nat) + (Int.toNat x.fst.Ring))).x.closed) V.unit))))) ∧ ((fun v : V => v = v) (V.Ai (x.snd.snd.rings.get ((0 : Nat) + (Int.toNat x.fst.Ring))).nil (V.cons (V.cons (V.int IntKind.u64 (x.snd.snd.rings.get ((0 : Nat) + (Int.toNat x.fst.Ring))).x.AA.tail) (V.cons (V.A1 41 1 (x.snd.snd.rings.get ((0 : Nat) + (Int.toNat x.fst.Ring))).x.AA.AD.nil (x.snd.snd.rings.get ((0 : Nat) + (Int.toNat x.fst.Ring))).x.AA.AD.n (fun i2 => (V.int IntKind.u64 ((x.snd.snd.rings.get ((0 : Nat) + (Int.toNat x.fst.Ring))).x.AA.AD.get i2)))) V.unit)) (V.cons (V.Ai (x.snd.snd.rings.get ((0 : Nat) + (Int.toNat x.fst.Ring))).x.s.nil (V.cons (V.A1 206 3 (x.snd.snd.rings.get ((0 : Nat) + (Int.toNat x.fst.Ring))).x.s.x.l.nil (x.snd.snd.rings.get ((0 : Nat) + (Int.toNat x.fst.Ring))).x.s.x.l.n (fun i2 => (V.cons (V.int IntKind.u64 ((x.snd.snd.rings.get ((0 : Nat) + (Int.toNat x.fst.Ring))).x.s.x.l.get i2).AO) (V.cons (V.int IntKind.u64 ((x.snd.snd.rings.get ((0 : Nat) + (Int.toNat x.fst.Ring))).x.s.x.l.get i2).Value) (V.cons (V.int IntKind.i64 ((x.snd.snd.rings.get ((0 : Nat) + (Int.toNat x.fst.Ring))).x.s.x.l.get i2).Left) V.unit))))) (V.cons (V.int IntKind.i64 (x.snd.snd.rings.get ((0 : Nat) + (Int.toNat x.fst.Ring))).x.s.x.AV) V.unit))) (V.cons (V.int IntKind.u64 (x.snd.snd.rings.get ((0 : Nat) + (Int.toNat x.fst.Ring))).x.most) (V.cons (V.bool (x.snd.snd.rings.get ((0 : Nat) + (Int.toNat x.fst.Ring))).x.closed) V.unit)))))))) <|
 (.need ((true && true) && (Nat.beq x.snd.snd.rings.n x.snd.snd.rings.n)) <|
 (.ret (y1, x.snd.snd))))))
 (.ite (AX x.fst.Kind 3)
 (.call con_f1d (x.snd.fst.Reader, (x.snd.snd.rings.get ((0 : Nat) + (Int.toNat x.fst.Ring))).x) fun (y1 : R_f1d) =>
 (.ite (!y1)
 (.call con_fp (x.snd.fst.Reader, (x.snd.snd.rings.get ((0 : Nat) + (Int.toNat x.fst.Ring))).x) fun (y2 : R_fp) =>
 (.need ((true && true) && (((Nat.beq x.snd.snd.rings.n x.snd.snd.rings.n) && (Nat.blt ((0 : Nat) + (Int.toNat x.fst.Ring)) x.snd.snd.rings.n)) && (!(x.snd.snd.rings.get ((0 : Nat) + (Int.toNat x.fst.Ring))).nil))) <|
 (.side (((fun v : Nat → V => v = v) (fun i3 => (cond (Nat.beq i3 ((0 : Nat) + (Int.toNat x.fst.Ring))) (V.ptr (Id.loc 15 0) List.nil) (V.Ai (x.snd.snd.rings.get i3).nil (V.cons (V.cons (V.int IntKind.u64 (x.snd.snd.rings.get i3).x.AA.tail) (V.cons (V.A1 41 1 (x.snd.snd.rings.get i3).x.AA.AD.nil (x.snd.snd.rings.get i3).x.AA.AD.n (fun i4 => (V.int IntKind.u64 ((x.snd.snd.rings.get i3).x.AA.AD.get i4)))) V.unit)) (V.cons (V.Ai (x.snd.snd.rings.get i3).x.s.nil (V.cons (V.A1 206 3 (x.snd.snd.rings.get i3).x.s.x.l.nil (x.snd.snd.rings.get i3).x.s.x.l.n (fun i4 => (V.cons (V.int IntKind.u64 ((x.snd.snd.rings.get i3).x.s.x.l.get i4).AO) (V.cons (V.int IntKind.u64 ((x.snd.snd.rings.get i3).x.s.x.l.get i4).Value) (V.cons (V.int IntKind.i64 ((x.snd.snd.rings.get i3).x.s.x.l.get i4).Left) V.unit))))) (V.cons (V.int IntKind.i64 (x.snd.snd.rings.get i3).x.s.x.AV) V.unit))) (V.cons (V.int IntKind.u64 (x.snd.snd.rings.get i3).x.most) (V.cons (V.bool (x.snd.snd.rings.get i3).x.closed) V.unit)))))))) ∧ (((fun v : V => v = v) (V.cons (V.cons (V.int IntKind.u64 (x.snd.snd.rings.get ((0 : Nat) + (Int.toNat x.fst.Ring))).x.AA.tail) (V.cons (V.A1 41 1 (x.snd.snd.rings.get ((0 : Nat) + (Int.toNat x.fst.Ring))).x.AA.AD.nil (x.snd.snd.rings.get ((0 : Nat) + (Int.toNat x.fst.Ring))).x.AA.AD.n (fun i3 => (V.int IntKind.u64 ((x.snd.snd.rings.get ((0 : Nat) + (Int.toNat x.fst.Ring))).x.AA.AD.get i3)))) V.unit)) (V.cons (V.Ai (x.snd.snd.rings.get ((0 : Nat) + (Int.toNat x.fst.Ring))).x.s.nil (V.cons (V.A1 206 3 (x.snd.snd.rings.get ((0 : Nat) + (Int.toNat x.fst.Ring))).x.s.x.l.nil (x.snd.snd.rings.get ((0 : Nat) + (Int.toNat x.fst.Ring))).x.s.x.l.n (fun i3 => (V.cons (V.int IntKind.u64 ((x.snd.snd.rings.get ((0 : Nat) + (Int.toNat x.fst.Ring))).x.s.x.l.get i3).AO) (V.cons (V.int IntKind.u64 ((x.snd.snd.rings.get ((0 : Nat) + (Int.toNat x.fst.Ring))).x.s.x.l.get i3).Value) (V.cons (V.int IntKind.i64 ((x.snd.snd.rings.get ((0 : Nat) + (Int.toNat x.fst.Ring))).x.s.x.l.get i3).Left) V.unit))))) (V.cons (V.int IntKind.i64 (x.snd.snd.rings.get ((0 : Nat) + (Int.toNat x.fst.Ring))).x.s.x.AV) V.unit))) (V.cons (V.int IntKind.u64 (x.snd.snd.rings.get ((0 : Nat) + (Int.toNat x.fst.Ring))).x.most) (V.cons (V.bool (x.snd.snd.rings.get ((0 : Nat) + (Int.toNat x.fst.Ring))).x.closed) V.unit))))) ∧ ((fun v : V => v = v) (V.Ai (x.snd.snd.rings.get ((0 : Nat) + (Int.toNat x.fst.Ring))).nil (V.cons (V.cons (V.int IntKind.u64 (x.snd.snd.rings.get ((0 : Nat) + (Int.toNat x.fst.Ring))).x.AA.tail) (V.cons (V.A1 41 1 (x.snd.snd.rings.get ((0 : Nat) + (Int.toNat x.fst.Ring))).x.AA.AD.nil (x.snd.snd.rings.get ((0 : Nat) + (Int.toNat x.fst.Ring))).x.AA.AD.n (fun i3 => (V.int IntKind.u64 ((x.snd.snd.rings.get ((0 : Nat) + (Int.toNat x.fst.Ring))).x.AA.AD.get i3)))) V.unit)) (V.cons (V.Ai (x.snd.snd.rings.get ((0 : Nat) + (Int.toNat x.fst.Ring))).x.s.nil (V.cons (V.A1 206 3 (x.snd.snd.rings.get ((0 : Nat) + (Int.toNat x.fst.Ring))).x.s.x.l.nil (x.snd.snd.rings.get ((0 : Nat) + (Int.toNat x.fst.Ring))).x.s.x.l.n (fun i3 => (V.cons (V.int IntKind.u64 ((x.snd.snd.rings.get ((0 : Nat) + (Int.toNat x.fst.Ring))).x.s.x.l.get i3).AO) (V.cons (V.int IntKind.u64 ((x.snd.snd.rings.get ((0 : Nat) + (Int.toNat x.fst.Ring))).x.s.x.l.get i3).Value) (V.cons (V.int IntKind.i64 ((x.snd.snd.rings.get ((0 : Nat) + (Int.toNat x.fst.Ring))).x.s.x.l.get i3).Left) V.unit))))) (V.cons (V.int IntKind.i64 (x.snd.snd.rings.get ((0 : Nat) + (Int.toNat x.fst.Ring))).x.s.x.AV) V.unit))) (V.cons (V.int IntKind.u64 (x.snd.snd.rings.get ((0 : Nat) + (Int.toNat x.fst.Ring))).x.most) (V.cons (V.bool (x.snd.snd.rings.get ((0 : Nat) + (Int.toNat x.fst.Ring))).x.closed) V.unit)))))))) <|
 (.need ((true && true) && (Nat.beq x.snd.snd.rings.n x.snd.snd.rings.n)) <|
 (.ret ((AX x.fst.AG y2), x.snd.snd))))))
 (.need ((true && true) && (((Nat.beq x.snd.snd.rings.n x.snd.snd.rings.n) && (Nat.blt ((0 : Nat) + (Int.toNat x.fst.Ring)) x.snd.snd.rings.n)) && (!(x.snd.snd.rings.get ((0 : Nat) + (Int.toNat x.fst.Ring))).nil))) <|
 (.side (((fun v : Nat → V => v = v) (fun i2 => (cond (Nat.beq i2 ((0 : Nat) + (Int.toNat x.fst.Ring))) (V.ptr (Id.loc 15 0) List.nil) (V.Ai (x.snd.snd.rings.get i2).nil (V.cons (V.cons (V.int IntKind.u64 (x.snd.snd.rings.get i2).x.AA.tail) (V.cons (V.A1 41 1 (x.snd.snd.rings.get i2).x.AA.AD.nil (x.snd.snd.rings.get i2).x.AA.AD.n (fun i3 => (V.int IntKind.u64 ((x.snd.snd.rings.get i2).x.AA.AD.get i3)))) V.unit)) (V.cons (V.Ai (x.snd.snd.rings.get i2).x.s.nil (V.cons (V.A1 206 3 (x.snd.snd.rings.get i2).x.s.x.l.nil (x.snd.snd.rings.get i2).x.s.x.l.n (fun i3 => (V.cons (V.int IntKind.u64 ((x.snd.snd.rings.get i2).x.s.x.l.get i3).AO) (V.cons (V.int IntKind.u64 ((x.snd.snd.rings.get i2).x.s.x.l.get i3).Value) (V.cons (V.int IntKind.i64 ((x.snd.snd.rings.get i2).x.s.x.l.get i3).Left) V.unit))))) (V.cons (V.int IntKind.i64 (x.snd.snd.rings.get i2).x.s.x.AV) V.unit))) (V.cons (V.int IntKind.u64 (x.snd.snd.rings.get i2).x.most) (V.cons (V.bool (x.snd.snd.rings.get i2).x.closed) V.unit)))))))) ∧ (((fun v : V => v = v) (V.cons (V.cons (V.int IntKind.u64 (x.snd.snd.rings.get ((0 : Nat) + (Int.toNat x.fst.Ring))).x.AA.tail) (V.cons (V.A1 41 1 (x.snd.snd.rings.get ((0 : Nat) + (Int.toNat x.fst.Ring))).x.AA.AD.nil (x.snd.snd.rings.get ((0 : Nat) + (Int.toNat x.fst.Ring))).x.AA.AD.n (fun i2 => (V.int IntKind.u64 ((x.snd.snd.rings.get ((0 : Nat) + (Int.toNat x.fst.Ring))).x.AA.AD.get i2)))) V.unit)) (V.cons (V.Ai (x.snd.snd.rings.get ((0 : Nat) + (Int.toNat x.fst.Ring))).x.s.nil (V.cons (V.A1 206 3 (x.snd.snd.rings.get ((0 : Nat) + (Int.toNat x.fst.Ring))).x.s.x.l.nil (x.snd.snd.rings.get ((0 : Nat) + (Int.toNat x.fst.Ring))).x.s.x.l.n (fun i2 => (V.cons (V.int IntKind.u64 ((x.snd.snd.rings.get ((0 : Nat) + (Int.toNat x.fst.Ring))).x.s.x.l.get i2).AO) (V.cons (V.int IntKind.u64 ((x.snd.snd.rings.get ((0 : Nat) + (Int.toNat x.fst.Ring))).x.s.x.l.get i2).Value) (V.cons (V.int IntKind.i64 ((x.snd.snd.rings.get ((0 : Nat) + (Int.toNat x.fst.Ring))).x.s.x.l.get i2).Left) V.unit))))) (V.cons (V.int IntKind.i64 (x.snd.snd.rings.get ((0 : Nat) + (Int.toNat x.fst.Ring))).x.s.x.AV) V.unit))) (V.cons (V.int IntKind.u64 (x.snd.snd.rings.get ((0 : Nat) + (Int.toNat x.fst.Ring))).x.most) (V.cons (V.bool (x.snd.snd.rings.get ((0 : Nat) + (Int.toNat x.fst.Ring))).x.closed) V.unit))))) ∧ ((fun v : V => v = v) (V.Ai (x.snd.snd.rings.get ((0 : Nat) + (Int.toNat x.fst.Ring))).nil (V.cons (V.cons (V.int IntKind.u64 (x.snd.snd.rings.get ((0 : Nat) + (Int.toNat x.fst.Ring))).x.AA.tail) (V.cons (V.A1 41 1 (x.snd.snd.rings.get ((0 : Nat) + (Int.toNat x.fst.Ring))).x.AA.AD.nil (x.snd.snd.rings.get ((0 : Nat) + (Int.toNat x.fst.Ring))).x.AA.AD.n (fun i2 => (V.int IntKind.u64 ((x.snd.snd.rings.get ((0 : Nat) + (Int.toNat x.fst.Ring))).x.AA.AD.get i2)))) V.unit)) (V.cons (V.Ai (x.snd.snd.rings.get ((0 : Nat) + (Int.toNat x.fst.Ring))).x.s.nil (V.cons (V.A1 206 3 (x.snd.snd.rings.get ((0 : Nat) + (Int.toNat x.fst.Ring))).x.s.x.l.nil (x.snd.snd.rings.get ((0 : Nat) + (Int.toNat x.fst.Ring))).x.s.x.l.n (fun i2 => (V.cons (V.int IntKind.u64 ((x.snd.snd.rings.get ((0 : Nat) + (Int.toNat x.fst.Ring))).x.s.x.l.get i2).AO) (V.cons (V.int IntKind.u64 ((x.snd.snd.rings.get ((0 : Nat) + (Int.toNat x.fst.Ring))).x.s.x.l.get i2).Value) (V.cons (V.int IntKind.i64 ((x.snd.snd.rings.get ((0 : Nat) + (Int.toNat x.fst.Ring))).x.s.x.l.get i2).Left) V.unit))))) (V.cons (V.int IntKind.i64 (x.snd.snd.rings.get ((0 : Nat) + (Int.toNat x.fst.Ring))).x.s.x.AV) V.unit))) (V.cons (V.int IntKind.u64 (x.snd.snd.rings.get ((0 : Nat) + (Int.toNat x.fst.Ring))).x.most) (V.cons (V.bool (x.snd.snd.rings.get ((0 : Nat) + (Int.toNat x.fst.Ring))).x.closed) V.unit)))))))) <|
 (.need ((true && true) && (Nat.beq x.snd.snd.rings.n x.snd.snd.rings.n)) <|
 (.ret (false, x.snd.snd)))))))
 (.ite (AX x.fst.Kind 4)
 (.call con_f2f (x.snd.fst.Reader, (x.fst.AG, (x.snd.snd.rings.get ((0 : Nat) + (Int.toNat x.fst.Ring))).x)) fun (y1 : R_f2f) =>
 (.need ((true && true) && (((Nat.beq x.snd.snd.rings.n x.snd.snd.rings.n) && (Nat.blt ((0 : Nat) + (Int.toNat x.fst.Ring)) x.snd.snd.rings.n)) && (!(x.snd.snd.rings.get ((0 : Nat) + (Int.toNat x.fst.Ring))).nil))) <|
 (.side (((fun v : Nat → V => v = v) (fun i2 => (cond (Nat.beq i2 ((0 : Nat) + (Int.toNat x.fst.Ring))) (V.ptr (Id.loc 15 0) List.nil) (V.Ai (x.snd.snd.rings.get i2).nil (V.cons (V.cons (V.int IntKind.u64 (x.snd.snd.rings.get i2).x.AA.tail) (V.cons (V.A1 41 1 (x.snd.snd.rings.get i2).x.AA.AD.nil (x.snd.snd.rings.get i2).x.AA.AD.n (fun i3 => (V.int IntKind.u64 ((x.snd.snd.rings.get i2).x.AA.AD.get i3)))) V.unit)) (V.cons (V.Ai (x.snd.snd.rings.get i2).x.s.nil (V.cons (V.A1 206 3 (x.snd.snd.rings.get i2).x.s.x.l.nil (x.snd.snd.rings.get i2).x.s.x.l.n (fun i3 => (V.cons (V.int IntKind.u64 ((x.snd.snd.rings.get i2).x.s.x.l.get i3).AO) (V.cons (V.int IntKind.u64 ((x.snd.snd.rings.get i2).x.s.x.l.get i3).Value) (V.cons (V.int IntKind.i64 ((x.snd.snd.rings.get i2).x.s.x.l.get i3).Left) V.unit))))) (V.cons (V.int IntKind.i64 (x.snd.snd.rings.get i2).x.s.x.AV) V.unit))) (V.cons (V.int IntKind.u64 (x.snd.snd.rings.get i2).x.most) (V.cons (V.bool (x.snd.snd.rings.get i2).x.closed) V.unit)))))))) ∧ (((fun v : V => v = v) (V.cons (V.cons (V.int IntKind.u64 (x.snd.snd.rings.get ((0 : Nat) + (Int.toNat x.fst.Ring))).x.AA.tail) (V.cons (V.A1 41 1 (x.snd.snd.rings.get ((0 : Nat) + (Int.toNat x.fst.Ring))).x.AA.AD.nil (x.snd.snd.rings.get ((0 : Nat) + (Int.toNat x.fst.Ring))).x.AA.AD.n (fun i2 => (V.int IntKind.u64 ((x.snd.snd.rings.get ((0 : Nat) + (Int.toNat x.fst.Ring))).x.AA.AD.get i2)))) V.unit)) (V.cons (V.Ai (x.snd.snd.rings.get ((0 : Nat) + (Int.toNat x.fst.Ring))).x.s.nil (V.cons (V.A1 206 3 (x.snd.snd.rings.get ((0 : Nat) + (Int.toNat x.fst.Ring))).x.s.x.l.nil (x.snd.snd.rings.get ((0 : Nat) + (Int.toNat x.fst.Ring))).x.s.x.l.n (fun i2 => (V.cons (V.int IntKind.u64 ((x.snd.snd.rings.get ((0 : Nat) + (Int.toNat x.fst.Ring))).x.s.x.l.get i2).AO) (V.cons (V.int IntKind.u64 ((x.snd.snd.rings.get ((0 : Nat) + (Int.toNat x.fst.Ring))).x.s.x.l.get i2).Value) (V.cons (V.int IntKind.i64 ((x.snd.snd.rings.get ((0 : Nat) + (Int.toNat x.fst.Ring))).x.s.x.l.get i2).Left) V.unit))))) (V.cons (V.int IntKind.i64 (x.snd.snd.rings.get ((0 : Nat) + (Int.toNat x.fst.Ring))).x.s.x.AV) V.unit))) (V.cons (V.int IntKind.u64 (x.snd.snd.rings.get ((0 : Nat) + (Int.toNat x.fst.Ring))).x.most) (V.cons (V.bool (x.snd.snd.rings.get ((0 : Nat) + (Int.toNat x.fst.Ring))).x.closed) V.unit))))) ∧ ((fun v : V => v = v) (V.Ai (x.snd.snd.rings.get ((0 : Nat) + (Int.toNat x.fst.Ring))).nil (V.cons (V.cons (V.int IntKind.u64 (x.snd.snd.rings.get ((0 : Nat) + (Int.toNat x.fst.Ring))).x.AA.tail) (V.cons (V.A1 41 1 (x.snd.snd.rings.get ((0 : Nat) + (Int.toNat x.fst.Ring))).x.AA.AD.nil (x.snd.snd.rings.get ((0 : Nat) + (Int.toNat x.fst.Ring))).x.AA.AD.n (fun i2 => (V.int IntKind.u64 ((x.snd.snd.rings.get ((0 : Nat) + (Int.toNat x.fst.Ring))).x.AA.AD.get i2)))) V.unit)) (V.cons (V.Ai (x.snd.snd.rings.get ((0 : Nat) + (Int.toNat x.fst.Ring))).x.s.nil (V.cons (V.A1 206 3 (x.snd.snd.rings.get ((0 : Nat) + (Int.toNat x.fst.Ring))).x.s.x.l.nil (x.snd.snd.rings.get ((0 : Nat) + (Int.toNat x.fst.Ring))).x.s.x.l.n (fun i2 => (V.cons (V.int IntKind.u64 ((x.snd.snd.rings.get ((0 : Nat) + (Int.toNat x.fst.Ring))).x.s.x.l.get i2).AO) (V.cons (V.int IntKind.u64 ((x.snd.snd.rings.get ((0 : Nat) + (Int.toNat x.fst.Ring))).x.s.x.l.get i2).Value) (V.cons (V.int IntKind.i64 ((x.snd.snd.rings.get ((0 : Nat) + (Int.toNat x.fst.Ring))).x.s.x.l.get i2).Left) V.unit))))) (V.cons (V.int IntKind.i64 (x.snd.snd.rings.get ((0 : Nat) + (Int.toNat x.fst.Ring))).x.s.x.AV) V.unit))) (V.cons (V.int IntKind.u64 (x.snd.snd.rings.get ((0 : Nat) + (Int.toNat x.fst.Ring))).x.most) (V.cons (V.bool (x.snd.snd.rings.get ((0 : Nat) + (Int.toNat x.fst.Ring))).x.closed) V.unit)))))))) <|
 (.need ((true && true) && (Nat.beq x.snd.snd.rings.n x.snd.snd.rings.n)) <|
 (.ret (y1, x.snd.snd))))))
 (.call con_f1p (x.snd.snd.rings.get ((0 : Nat) + (Int.toNat x.fst.Ring))).x fun (y1 : R_f1p) =>
 (.need ((true && true) && (((Nat.beq x.snd.snd.rings.n x.snd.snd.rings.n) && (Nat.blt ((0 : Nat) + (Int.toNat x.fst.Ring)) x.snd.snd.rings.n)) && (!(x.snd.snd.rings.get ((0 : Nat) + (Int.toNat x.fst.Ring))).nil))) <|
 (.side (((fun v : Nat → V => v = v) (fun i2 => (cond (Nat.beq i2 ((0 : Nat) + (Int.toNat x.fst.Ring))) (V.ptr (Id.loc 15 0) List.nil) (V.Ai (x.snd.snd.rings.get i2).nil (V.cons (V.cons (V.int IntKind.u64 (x.snd.snd.rings.get i2).x.AA.tail) (V.cons (V.A1 41 1 (x.snd.snd.rings.get i2).x.AA.AD.nil (x.snd.snd.rings.get i2).x.AA.AD.n (fun i3 => (V.int IntKind.u64 ((x.snd.snd.rings.get i2).x.AA.AD.get i3)))) V.unit)) (V.cons (V.Ai (x.snd.snd.rings.get i2).x.s.nil (V.cons (V.A1 206 3 (x.snd.snd.rings.get i2).x.s.x.l.nil (x.snd.snd.rings.get i2).x.s.x.l.n (fun i3 => (V.cons (V.int IntKind.u64 ((x.snd.snd.rings.get i2).x.s.x.l.get i3).AO) (V.cons (V.int IntKind.u64 ((x.snd.snd.rings.get i2).x.s.x.l.get i3).Value) (V.cons (V.int IntKind.i64 ((x.snd.snd.rings.get i2).x.s.x.l.get i3).Left) V.unit))))) (V.cons (V.int IntKind.i64 (x.snd.snd.rings.get i2).x.s.x.AV) V.unit))) (V.cons (V.int IntKind.u64 (x.snd.snd.rings.get i2).x.most) (V.cons (V.bool (x.snd.snd.rings.get i2).x.closed) V.unit)))))))) ∧ (((fun v : V => v = v) (V.cons (V.cons (V.int IntKind.u64 (x.snd.snd.rings.get ((0 : Nat) + (Int.toNat x.fst.Ring))).x.AA.tail) (V.cons (V.A1 41 1 (x.snd.snd.rings.get ((0 : Nat) + (Int.toNat x.fst.Ring))).x.AA.AD.nil (x.snd.snd.rings.get ((0 : Nat) + (Int.toNat x.fst.Ring))).x.AA.AD.n (fun i2 => (V.int IntKind.u64 ((x.snd.snd.rings.get ((0 : Nat) + (Int.toNat x.fst.Ring))).x.AA.AD.get i2)))) V.unit)) (V.cons (V.Ai (x.snd.snd.rings.get ((0 : Nat) + (Int.toNat x.fst.Ring))).x.s.nil (V.cons (V.A1 206 3 (x.snd.snd.rings.get ((0 : Nat) + (Int.toNat x.fst.Ring))).x.s.x.l.nil (x.snd.snd.rings.get ((0 : Nat) + (Int.toNat x.fst.Ring))).x.s.x.l.n (fun i2 => (V.cons (V.int IntKind.u64 ((x.snd.snd.rings.get ((0 : Nat) + (Int.toNat x.fst.Ring))).x.s.x.l.get i2).AO) (V.cons (V.int IntKind.u64 ((x.snd.snd.rings.get ((0 : Nat) + (Int.toNat x.fst.Ring))).x.s.x.l.get i2).Value) (V.cons (V.int IntKind.i64 ((x.snd.snd.rings.get ((0 : Nat) + (Int.toNat x.fst.Ring))).x.s.x.l.get i2).Left) V.unit))))) (V.cons (V.int IntKind.i64 (x.snd.snd.rings.get ((0 : Nat) + (Int.toNat x.fst.Ring))).x.s.x.AV) V.unit))) (V.cons (V.int IntKind.u64 (x.snd.snd.rings.get ((0 : Nat) + (Int.toNat x.fst.Ring))).x.most) (V.cons (V.bool (x.snd.snd.rings.get ((0 : Nat) + (Int.toNat x.fst.Ring))).x.closed) V.unit))))) ∧ ((fun v : V => v = v) (V.Ai (x.snd.snd.rings.get ((0 : Nat) + (Int.toNat x.fst.Ring))).nil (V.cons (V.cons (V.int IntKind.u64 (x.snd.snd.rings.get ((0 : Nat) + (Int.toNat x.fst.Ring))).x.AA.tail) (V.cons (V.A1 41 1 (x.snd.snd.rings.get ((0 : Nat) + (Int.toNat x.fst.Ring))).x.AA.AD.nil (x.snd.snd.rings.get ((0 : Nat) + (Int.toNat x.fst.Ring))).x.AA.AD.n (fun i2 => (V.int IntKind.u64 ((x.snd.snd.rings.get ((0 : Nat) + (Int.toNat x.fst.Ring))).x.AA.AD.get i2)))) V.unit)) (V.cons (V.Ai (x.snd.snd.rings.get ((0 : Nat) + (Int.toNat x.fst.Ring))).x.s.nil (V.cons (V.A1 206 3 (x.snd.snd.rings.get ((0 : Nat) + (Int.toNat x.fst.Ring))).x.s.x.l.nil (x.snd.snd.rings.get ((0 : Nat) + (Int.toNat x.fst.Ring))).x.s.x.l.n (fun i2 => (V.cons (V.int IntKind.u64 ((x.snd.snd.rings.get ((0 : Nat) + (Int.toNat x.fst.Ring))).x.s.x.l.get i2).AO) (V.cons (V.int IntKind.u64 ((x.snd.snd.rings.get ((0 : Nat) + (Int.toNat x.fst.Ring))).x.s.x.l.get i2).Value) (V.cons (V.int IntKind.i64 ((x.snd.snd.rings.get ((0 : Nat) + (Int.toNat x.fst.Ring))).x.s.x.l.get i2).Left) V.unit))))) (V.cons (V.int IntKind.i64 (x.snd.snd.rings.get ((0 : Nat) + (Int.toNat x.fst.Ring))).x.s.x.AV) V.unit))) (V.cons (V.int IntKind.u64 (x.snd.snd.rings.get ((0 : Nat) + (Int.toNat x.fst.Ring))).x.most) (V.cons (V.bool (x.snd.snd.rings.get ((0 : Nat) + (Int.toNat x.fst.Ring))).x.closed) V.unit)))))))) <|
 (.need ((true && true) && (Nat.beq x.snd.snd.rings.n x.snd.snd.rings.n)) <|
 (.ret ((AX x.fst.AG y1), x.snd.snd))))))))))))
theorem sd_f1b (x : X_f1b) : (tt_f1b x).AH :=
 (TT.sN (TT.sN (TT.sI (TT.sC fun _ => (TT.sI (TT.sC fun _ => (TT.sN (TT.sS ⟨rfl, ⟨rfl, rfl⟩⟩ (TT.sN TT.sR)))) (TT.sN (TT.sS ⟨rfl, ⟨rfl, rfl⟩⟩ (TT.sN TT.sR))))) (TT.sI (TT.sC fun _ => (TT.sN (TT.sS ⟨rfl, ⟨rfl, rfl⟩⟩ (TT.sN TT.sR)))) (TT.sI (TT.sC fun _ => (TT.sI (TT.sC fun _ => (TT.sN (TT.sS ⟨rfl, ⟨rfl, rfl⟩⟩ (TT.sN TT.sR)))) (TT.sN (TT.sS ⟨rfl, ⟨rfl, rfl⟩⟩ (TT.sN TT.sR))))) (TT.sI (TT.sC fun _ => (TT.sN (TT.sS ⟨rfl, ⟨rfl, rfl⟩⟩ (TT.sN TT.sR)))) (TT.sC fun _ => (TT.sN (TT.sS ⟨rfl, ⟨rfl, rfl⟩⟩ (TT.sN TT.sR))))))))))
theorem roT_f1b (x : X_f1b) : TT.Ro p_f1b (w_f1b x) (tt_f1b x) :=
 (TT.rN (TT.rN (TT.rI (TT.rC fun _ => (TT.rI (TT.rC fun _ => (TT.rN (TT.rS (TT.rN (TT.rR rfl))))) (TT.rN (TT.rS (TT.rN (TT.rR rfl)))))) (TT.rI (TT.rC fun _ => (TT.rN (TT.rS (TT.rN (TT.rR rfl))))) (TT.rI (TT.rC fun _ => (TT.rI (TT.rC fun _ => (TT.rN (TT.rS (TT.rN (TT.rR rfl))))) (TT.rN (TT.rS (TT.rN (TT.rR rfl)))))) (TT.rI (TT.rC fun _ => (TT.rN (TT.rS (TT.rN (TT.rR rfl))))) (TT.rC fun _ => (TT.rN (TT.rS (TT.rN (TT.rR rfl)))))))))))
def D_f1b : AU X_f1b R_f1b := .ro (.of tt_f1b) (fun y => (y.1)) (fun y x => (y, x.2.2)) fun x y h => congrArg (fun o => (y.1, o)) (roT_f1b x y h)
def con_f1b : A3 Tryz.prog :=
 C7 62 J_f1b S_f1b (.of tt_f1b) D_f1b (fun y x => (y, x.2.2)) (fun y => V.bool y) 3 1 [.any, .any, .any] (lk mxk lbn sd_f1b) (fun x => ⟨(nu_e_TFa : ∀ y, (e_TFa y).CU) (x.2.2), trivial⟩)
abbrev X_f2z : Type := TEv
abbrev R_f2z : Type := Bool
def J_f2z : A8 Tryz.prog :=
 BD Tryz.prog Tryz.f63 11 [(1, 3)] [] [] [] [.any] [] [] R_f2z [] fun y => [V.bool y]
def S_f2z : AM :=
 Ae Tryz.f63 1 0 X_f2z (fun x => [e_TEv x]) fun l => (d_TEv (at_ l 0))
def tt_f2z (x : X_f2z) : TT Tryz.prog R_f2z :=
 (.ite (BW x.Kind 4)
 (.ret true)
 (.ret (AX x.Kind 13)))
theorem sd_f2z (x : X_f2z) : (tt_f2z x).AH :=
 (TT.sI TT.sR TT.sR)
def D_f2z : AU X_f2z R_f2z := .of tt_f2z
def con_f2z : A3 Tryz.prog :=
 BS 63 J_f2z S_f2z D_f2z 1 0 [.any] (lk mxk lbn sd_f2z)
end Go.Proofs.YtlhifcnjnmeknaaGreatDoor
end
