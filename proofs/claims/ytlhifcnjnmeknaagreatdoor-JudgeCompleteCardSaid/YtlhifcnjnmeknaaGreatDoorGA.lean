/- What functions of the program come to, part A: no statement is proved here. -/
import Derived.Test.YtlhifcnjnmeknaaGreatDoorM
import Derived.Test.YtlhifcnjnmeknaaGreatDoorProg
import Derived.KernelRfl
noncomputable section
namespace Go.Proofs.YtlhifcnjnmeknaaGreatDoor
open Go Go.Vm Go.Proofs
set_option maxRecDepth 100000
set_option maxHeartbeats 4000000
theorem mxk : Tryz.prog.follows .mixedOrders = true:=by kernel_rfl
def d_TRg (v : V) : TRg :=
 ⟨dI (fd v 0),dI (fd v 1),dI (fd v 2)⟩
def e_TRg (x : TRg) : V :=
 V.cons ((V.int .i64) x.Kind) (V.cons ((V.int .i64) x.Cn) (V.cons ((V.int .i64) x.AU) (V.unit)))
theorem nu_e_TRg (x : TRg) : (e_TRg x).CV:=⟨trivial,trivial,trivial,trivial⟩
abbrev Dsl_TRg : Type:=(Sl TRg)
def esl_TRg : Dsl_TRg → V:=(LA none 3 e_TRg)
def dsl_TRg : V → Dsl_TRg:=(LX d_TRg)
def hsl_TRg : Sh:=(.sl none 3 (e_TRg (d_TRg .undef)))
def d_TIn (v : V) : TIn :=
 ⟨dI (fd v 0),dI (fd v 1),dI (fd v 2),dI (fd v 3),dI (fd v 4),dI (fd v 5)⟩
def e_TIn (x : TIn) : V :=
 V.cons ((V.int .i64) x.Op) (V.cons ((V.int .i64) x.A) (V.cons ((V.int .i64) x.B) (V.cons ((V.int .i64) x.C) (V.cons ((V.int .i64) x.D) (V.cons ((V.int .u64) x.K) (V.unit))))))
theorem nu_e_TIn (x : TIn) : (e_TIn x).CV:=⟨trivial,trivial,trivial,trivial,trivial,trivial,trivial⟩
abbrev Dsl_TIn : Type:=(Sl TIn)
def esl_TIn : Dsl_TIn → V:=(LA none 6 e_TIn)
def dsl_TIn : V → Dsl_TIn:=(LX d_TIn)
def hsl_TIn : Sh:=(.sl none 6 (e_TIn (d_TIn .undef)))
abbrev Dsl_sl_TIn : Type:=(Sl (Sl TIn))
def esl_sl_TIn : Dsl_sl_TIn → V:=(LA none 1 esl_TIn)
def dsl_sl_TIn : V → Dsl_sl_TIn:=(LX dsl_TIn)
def hsl_sl_TIn : Sh:=(.sl none 1 (esl_TIn (dsl_TIn .undef)))
structure TPg where
 AJ : (Sl TRg)
 AB : (Sl (Sl TIn))
def d_TPg (v : V) : TPg :=
 ⟨dsl_TRg (fd v 0),dsl_sl_TIn (fd v 1)⟩
def e_TPg (x : TPg) : V :=
 V.cons (esl_TRg x.AJ) (V.cons (esl_sl_TIn x.AB) (V.unit))
theorem nu_e_TPg (x : TPg) : (e_TPg x).CV:=⟨trivial,trivial,trivial⟩
def sh_TPg : Sh:=(.cons hsl_TRg (.cons hsl_sl_TIn .any))
abbrev X_f4e : Type:=Unit
abbrev R_f4e : Type:=TPg
def J_f4e : A9 Tryz.prog :=
 BF Tryz.prog Tryz.f35 6 [] [] [] [] [sh_TPg] [] [] R_f4e [] fun y=>[e_TPg y]
def S_f4e : AM :=
 Ae Tryz.f35 0 0 X_f4e (fun x=>[]) fun l=>()
def tt_f4e (x : X_f4e) : TT Tryz.prog R_f4e :=
 (.ret (TPg.mk (Sl.mk true 0 (fun i1=>(TRg.mk 0 0 0))) (Sl.mk false 1 (fun i1=>(Sl.mk false 2 (fun i2=>(TIn.mk (cond (Nat.beq i2 0) (24 : Int) (25 : Int)) (cond (Nat.beq i2 0) (0 : Int) (0 : Int)) (cond (Nat.beq i2 0) (0 : Int) (0 : Int)) (cond (Nat.beq i2 0) (0 : Int) (0 : Int)) (cond (Nat.beq i2 0) (0 : Int) (0 : Int)) (cond (Nat.beq i2 0) (0 : Int) (0 : Int)))))))))
theorem sd_f4e (x : X_f4e) : (tt_f4e x).AH :=
 TT.sR
def D_f4e : AQ X_f4e R_f4e:=.of tt_f4e
def con_f4e : A3 Tryz.prog :=
 BZ 35 J_f4e S_f4e D_f4e 0 0 [] (lk mxk lbn sd_f4e)
abbrev X_f27 : Type:=TRg
abbrev R_f27 : Type:=Bool
def J_f27 : A9 Tryz.prog :=
 BF Tryz.prog Tryz.f137 34 [(1,3)] [] [] [] [.any] [] [] R_f27 [] fun y=>[V.bool y]
def S_f27 : AM :=
 Ae Tryz.f137 1 0 X_f27 (fun x=>[e_TRg x]) fun l=>(d_TRg (at_ l 0))
structure X_f27_3 where
 NF : TRg
def S_f27_3 : AM :=
 Ad Tryz.f137 3 [(1,.any)] [] [] X_f27_3 (fun x=>[(CR e_TRg) x.NF]) fun l=>⟨(CS d_TRg) (at_ l 0)⟩
def tt_f27_3 (x : X_f27_3) : TT Tryz.prog R_f27 :=
 (.ite (AX x.NF.Kind 1)
 (.ite (AX x.NF.AU 1)
 (.ret true)
 (.ite (AX x.NF.Kind 2)
 (.ite (Bd 1 x.NF.AU)
 (.ret (Bd x.NF.AU 8))
 (.ret false))
 (.ret false)))
 (.ite (AX x.NF.Kind 2)
 (.ite (Bd 1 x.NF.AU)
 (.ret (Bd x.NF.AU 8))
 (.ret false))
 (.ret false)))
theorem sd_f27_3 (x : X_f27_3) : (tt_f27_3 x).AH :=
 (TT.sI (TT.sI TT.sR (TT.sI (TT.sI TT.sR TT.sR) TT.sR)) (TT.sI (TT.sI TT.sR TT.sR) TT.sR))
def D_f27_3 : AQ X_f27_3 R_f27:=.of tt_f27_3
theorem ok_f27_3 : AV J_f27 S_f27_3 D_f27_3 :=
 lk mxk lbn sd_f27_3
def tt_f27 (x : X_f27) : TT Tryz.prog R_f27 :=
 (.ite (BS x.Cn 1)
 (.ret false)
 (.ite (BS 64 x.Cn)
 (.ret false)
 (.jump S_f27_3 D_f27_3 (X_f27_3.mk x))))
theorem sd_f27 (x : X_f27) : (tt_f27 x).AH :=
 (TT.sI TT.sR (TT.sI TT.sR TT.sJ))
def D_f27 : AQ X_f27 R_f27:=.of tt_f27
def con_f27 : A3 Tryz.prog :=
 BZ 137 J_f27 S_f27 D_f27 1 0 [.any] (lk mxk (lbc ok_f27_3 rfl lbn) sd_f27)
abbrev X_f3g : Type:=Int
abbrev R_f3g : Type:=Bool
def J_f3g : A9 Tryz.prog :=
 BF Tryz.prog Tryz.f180 9 [] [] [] [] [.any] [] [] R_f3g [] fun y=>[V.bool y]
def S_f3g : AM :=
 Ae Tryz.f180 1 0 X_f3g (fun x=>[(V.int .i64) x]) fun l=>(dI (at_ l 0))
def tt_f3g (x : X_f3g) : TT Tryz.prog R_f3g :=
 (.ite (Bd 1 x)
 (.ret (Bd x 17))
 (.ret false))
theorem sd_f3g (x : X_f3g) : (tt_f3g x).AH :=
 (TT.sI TT.sR TT.sR)
def D_f3g : AQ X_f3g R_f3g:=.of tt_f3g
def con_f3g : A3 Tryz.prog :=
 BZ 180 J_f3g S_f3g D_f3g 1 0 [.any] (lk mxk lbn sd_f3g)
structure TCl where
 a : Int
 b : Int
 c : Int
 d : Int
 k : Int
def d_TCl (v : V) : TCl :=
 ⟨dI (fd v 0),dI (fd v 1),dI (fd v 2),dI (fd v 3),dI (fd v 4)⟩
def e_TCl (x : TCl) : V :=
 V.cons ((V.int .i64) x.a) (V.cons ((V.int .i64) x.b) (V.cons ((V.int .i64) x.c) (V.cons ((V.int .i64) x.d) (V.cons ((V.int .u64) x.k) (V.unit)))))
theorem nu_e_TCl (x : TCl) : (e_TCl x).CV:=⟨trivial,trivial,trivial,trivial,trivial,trivial⟩
abbrev X_f26 : Type:=Int
abbrev R_f26 : Type:=TCl × Bool
def J_f26 : A9 Tryz.prog :=
 BF Tryz.prog Tryz.f195 39 [] [] [] [] [.any,.any] [] [con_f3g] R_f26 [] fun y=>[V.CC (V.cons (e_TCl y.1) (V.cons (V.bool y.2) (V.unit)))]
def S_f26 : AM :=
 Ae Tryz.f195 1 0 X_f26 (fun x=>[(V.int .i64) x]) fun l=>(dI (at_ l 0))
structure X_f26_24 where
 DV : Int
 Fe : TCl
def S_f26_24 : AM :=
 Ad Tryz.f195 24 (an [0,2]) [] [(.loc 2 0,.any)] X_f26_24 (fun x=>[(V.int .i64) x.DV,(V.ptr (.loc 2 0) []),e_TCl x.Fe]) fun l=>⟨dI (at_ l 0),d_TCl (at_ l 2)⟩
def tt_f26_24 (x : X_f26_24) : TT Tryz.prog R_f26 :=
 (.call con_f3g x.DV fun (y1 : R_f3g) =>
 (.ret ((TCl.mk 7 7 7 0 0),y1)))
theorem sd_f26_24 (x : X_f26_24) : (tt_f26_24 x).AH :=
 (TT.sC fun _=>TT.sR)
def D_f26_24 : AQ X_f26_24 R_f26:=.of tt_f26_24
theorem ok_f26_24 : AV J_f26 S_f26_24 D_f26_24 :=
 lk mxk lbn sd_f26_24
def tt_f26 (x : X_f26) : TT Tryz.prog R_f26 :=
 (.ite (AX x 1)
 (.ret ((TCl.mk 7 0 0 0 18446744073709551615),true))
 (.ite (AX x 2)
 (.ret ((TCl.mk 7 7 0 0 0),true))
 (.ite (AX x 23)
 (.ret ((TCl.mk 7 7 0 0 0),true))
 (.ite (AX x 15)
 (.ret ((TCl.mk 0 0 0 0 256),true))
 (.ite (AX x 16)
 (.ret ((TCl.mk 7 0 0 0 256),true))
 (.ite (AX x 17)
 (.ret ((TCl.mk 7 0 0 0 256),true))
 (.ite (AX x 18)
 (.ret ((TCl.mk 7 7 7 2 0),true))
 (.ite (AX x 19)
 (.ret ((TCl.mk 7 7 7 2 7),true))
 (.ite (AX x 20)
 (.ret ((TCl.mk 0 0 7 0 0),true))
 (.ite (AX x 21)
 (.ret ((TCl.mk 7 0 0 0 0),true))
 (.ite (AX x 22)
 (.ret ((TCl.mk 7 0 0 0 0),true))
 (.ite (AX x 24)
 (.ret ((TCl.mk 7 0 0 0 0),true))
 (.ite (AX x 25)
 (.ret ((TCl.mk 0 0 0 0 0),true))
 (.jump S_f26_24 D_f26_24 (X_f26_24.mk x (TCl.mk 0 0 0 0 0))))))))))))))))
theorem sd_f26 (x : X_f26) : (tt_f26 x).AH :=
 (TT.sI TT.sR (TT.sI TT.sR (TT.sI TT.sR (TT.sI TT.sR (TT.sI TT.sR (TT.sI TT.sR (TT.sI TT.sR (TT.sI TT.sR (TT.sI TT.sR (TT.sI TT.sR (TT.sI TT.sR (TT.sI TT.sR (TT.sI TT.sR TT.sJ)))))))))))))
def D_f26 : AQ X_f26 R_f26:=.of tt_f26
def con_f26 : A3 Tryz.prog :=
 BZ 195 J_f26 S_f26 D_f26 1 0 [.any] (lk mxk (lbc ok_f26_24 rfl lbn) sd_f26)
abbrev X_f3h : Type:=TIn
abbrev R_f3h : Type:=Bool
def J_f3h : A9 Tryz.prog :=
 BF Tryz.prog Tryz.f170 67 [(1,3),(5,1)] [] [] [] [.any] [] [con_f26] R_f3h [] fun y=>[V.bool y]
def S_f3h : AM :=
 Ae Tryz.f170 1 0 X_f3h (fun x=>[e_TIn x]) fun l=>(d_TIn (at_ l 0))
def tt_f3h (x : X_f3h) : TT Tryz.prog R_f3h :=
 (.call con_f26 x.Op fun (y1 : R_f26) =>
 (.ite y1.snd
 (.ite (Bd 0 x.A)
 (.ite (Bd x.A y1.fst.a)
 (.ite (Bd 0 x.B)
 (.ite (Bd x.B y1.fst.b)
 (.ite (Bd 0 x.C)
 (.ite (Bd x.C y1.fst.c)
 (.ite (Bd 0 x.D)
 (.ite (Bd x.D y1.fst.d)
 (.ret (Bd x.K y1.fst.k))
 (.ret false))
 (.ret false))
 (.ret false))
 (.ret false))
 (.ret false))
 (.ret false))
 (.ret false))
 (.ret false))
 (.ret false)))
theorem sd_f3h (x : X_f3h) : (tt_f3h x).AH :=
 (TT.sC fun _=>(TT.sI (TT.sI (TT.sI (TT.sI (TT.sI (TT.sI (TT.sI (TT.sI (TT.sI TT.sR TT.sR) TT.sR) TT.sR) TT.sR) TT.sR) TT.sR) TT.sR) TT.sR) TT.sR))
def D_f3h : AQ X_f3h R_f3h:=.of tt_f3h
def con_f3h : A3 Tryz.prog :=
 BZ 170 J_f3h S_f3h D_f3h 1 0 [.any] (lk mxk lbn sd_f3h)
abbrev X_f3i : Type:=TIn
abbrev R_f3i : Type:=Bool
def J_f3i : A9 Tryz.prog :=
 BF Tryz.prog Tryz.f171 11 [(1,3)] [] [] [] [.any] [] [] R_f3i [] fun y=>[V.bool y]
def S_f3i : AM :=
 Ae Tryz.f171 1 0 X_f3i (fun x=>[e_TIn x]) fun l=>(d_TIn (at_ l 0))
def tt_f3i (x : X_f3i) : TT Tryz.prog R_f3i :=
 (.ite (Bd 15 x.Op)
 (.ret (Bd x.Op 17))
 (.ret false))
theorem sd_f3i (x : X_f3i) : (tt_f3i x).AH :=
 (TT.sI TT.sR TT.sR)
def D_f3i : AQ X_f3i R_f3i:=.of tt_f3i
def con_f3i : A3 Tryz.prog :=
 BZ 171 J_f3i S_f3i D_f3i 1 0 [.any] (lk mxk lbn sd_f3i)
abbrev X_f3d : Type:=Int
abbrev R_f3d : Type:=Bool
def J_f3d : A9 Tryz.prog :=
 BF Tryz.prog Tryz.f172 13 [] [] [] [] [.any] [] [] R_f3d [] fun y=>[V.bool y]
def S_f3d : AM :=
 Ae Tryz.f172 1 0 X_f3d (fun x=>[(V.int .i64) x]) fun l=>(dI (at_ l 0))
def tt_f3d (x : X_f3d) : TT Tryz.prog R_f3d :=
 (.ite (AX x 18)
 (.ret true)
 (.ite (AX x 19)
 (.ret true)
 (.ret (AX x 20))))
theorem sd_f3d (x : X_f3d) : (tt_f3d x).AH :=
 (TT.sI TT.sR (TT.sI TT.sR TT.sR))
def D_f3d : AQ X_f3d R_f3d:=.of tt_f3d
def con_f3d : A3 Tryz.prog :=
 BZ 172 J_f3d S_f3d D_f3d 1 0 [.any] (lk mxk lbn sd_f3d)
abbrev X_f3m : Type:=TPg × TIn × Int
abbrev R_f3m : Type:=Int
def J_f3m : A9 Tryz.prog :=
 BF Tryz.prog Tryz.f138 50 [(3,3),(4,3)] [] [] [] [.any] [] [con_f3d,con_f3i,con_f3h] R_f3m [] fun y=>[(V.int .i64) y]
def S_f3m : AM :=
 Ae Tryz.f138 3 0 X_f3m (fun x=>[e_TPg x.1,e_TIn x.2.1,(V.int .i64) x.2.2]) fun l=>(d_TPg (at_ l 0),d_TIn (at_ l 1),dI (at_ l 2))
def tt_f3m (x : X_f3m) : TT Tryz.prog R_f3m :=
 (.call con_f3h x.snd.fst fun (y1 : R_f3h) =>
 (.ite (!y1)
 (.ret 6)
 (.call con_f3i x.snd.fst fun (y2 : R_f3i) =>
 (.ite y2
 (.ite (BS (IntKind.u64.wrap x.snd.snd) x.snd.fst.K)
 (.ret 5)
 (.call con_f3d x.snd.fst.Op fun (y3 : R_f3d) =>
 (.ite y3
 (.ite (Bd ((x.fst.AJ.n : Nat) : Int) x.snd.fst.C)
 (.ret 7)
 (.ite (AX x.snd.fst.Op 19)
 (.need (A0 x.snd.fst.C x.fst.AJ.n) <|
 (.ite (Bd (IntKind.u64.wrap (x.fst.AJ.get (Int.toNat x.snd.fst.C)).AU) x.snd.fst.K)
 (.ret 7)
 (.ret 0)))
 (.ret 0)))
 (.ite (AX x.snd.fst.Op 19)
 (.need (A0 x.snd.fst.C x.fst.AJ.n) <|
 (.ite (Bd (IntKind.u64.wrap (x.fst.AJ.get (Int.toNat x.snd.fst.C)).AU) x.snd.fst.K)
 (.ret 7)
 (.ret 0)))
 (.ret 0)))))
 (.call con_f3d x.snd.fst.Op fun (y3 : R_f3d) =>
 (.ite y3
 (.ite (Bd ((x.fst.AJ.n : Nat) : Int) x.snd.fst.C)
 (.ret 7)
 (.ite (AX x.snd.fst.Op 19)
 (.need (A0 x.snd.fst.C x.fst.AJ.n) <|
 (.ite (Bd (IntKind.u64.wrap (x.fst.AJ.get (Int.toNat x.snd.fst.C)).AU) x.snd.fst.K)
 (.ret 7)
 (.ret 0)))
 (.ret 0)))
 (.ite (AX x.snd.fst.Op 19)
 (.need (A0 x.snd.fst.C x.fst.AJ.n) <|
 (.ite (Bd (IntKind.u64.wrap (x.fst.AJ.get (Int.toNat x.snd.fst.C)).AU) x.snd.fst.K)
 (.ret 7)
 (.ret 0)))
 (.ret 0))))))))
theorem sd_f3m (x : X_f3m) : (tt_f3m x).AH :=
 (TT.sC fun _=>(TT.sI TT.sR (TT.sC fun _=>(TT.sI (TT.sI TT.sR (TT.sC fun _=>(TT.sI (TT.sI TT.sR (TT.sI (TT.sN (TT.sI TT.sR TT.sR)) TT.sR)) (TT.sI (TT.sN (TT.sI TT.sR TT.sR)) TT.sR)))) (TT.sC fun _=>(TT.sI (TT.sI TT.sR (TT.sI (TT.sN (TT.sI TT.sR TT.sR)) TT.sR)) (TT.sI (TT.sN (TT.sI TT.sR TT.sR)) TT.sR)))))))
def D_f3m : AQ X_f3m R_f3m:=.of tt_f3m
def con_f3m : A3 Tryz.prog :=
 BZ 138 J_f3m S_f3m D_f3m 3 0 [sh_TPg,.any,.any] (lk mxk lbn sd_f3m)
abbrev X_f4 : Type:=TPg
abbrev R_f4 : Type:=Int × Int × Int
def J_f4 : A9 Tryz.prog :=
 BF Tryz.prog Tryz.f93 72 [(1,3)] [] [] [] [.any,.any,.any] [] [con_f3m,con_f27] R_f4 [] fun y=>[V.CC (V.cons ((V.int .i64) y.1) (V.cons ((V.int .i64) y.2.1) (V.cons ((V.int .i64) y.2.2) (V.unit))))]
def S_f4 : AM :=
 Ae Tryz.f93 1 0 X_f4 (fun x=>[e_TPg x]) fun l=>(d_TPg (at_ l 0))
structure X_f4_4 where
 DQ : TPg
def S_f4_4 : AM :=
 Ad Tryz.f93 4 [(1,.any)] [] [] X_f4_4 (fun x=>[(CR e_TPg) x.DQ]) fun l=>⟨(CS d_TPg) (at_ l 0)⟩
structure X_f4_5 where
 DQ : TPg
 TH : (Sl TRg)
 UO : Int
 FU : Int
def S_f4_5 : AM :=
 Ad Tryz.f93 5 [(1,.any),(29,hsl_TRg),(30,.any),(31,.any)] [] [] X_f4_5 (fun x=>[(CR e_TPg) x.DQ,esl_TRg x.TH,(V.int .i64) x.UO,(V.int .i64) x.FU]) fun l=>⟨(CS d_TPg) (at_ l 0),dsl_TRg (at_ l 1),dI (at_ l 2),dI (at_ l 3)⟩
structure X_f4_10 where
 DQ : TPg
def S_f4_10 : AM :=
 Ad Tryz.f93 10 [(1,.any)] [] [] X_f4_10 (fun x=>[(CR e_TPg) x.DQ]) fun l=>⟨(CS d_TPg) (at_ l 0)⟩
structure X_f4_11 where
 DQ : TPg
 Hs : (Sl (Sl TIn))
 LP : Int
 Gj : Int
def S_f4_11 : AM :=
 Ad Tryz.f93 11 [(1,.any),(42,hsl_sl_TIn),(43,.any),(44,.any)] [] [] X_f4_11 (fun x=>[(CR e_TPg) x.DQ,esl_sl_TIn x.Hs,(V.int .i64) x.LP,(V.int .i64) x.Gj]) fun l=>⟨(CS d_TPg) (at_ l 0),dsl_sl_TIn (at_ l 1),dI (at_ l 2),dI (at_ l 3)⟩
structure X_f4_16 where
 DQ : TPg
 t_8 : Int
 l_9 : (Sl TIn)
 Hs : (Sl (Sl TIn))
 LP : Int
 Gj : Int
 TE : (Sl TIn)
 UN : Int
 QR : Int
def S_f4_16 : AM :=
 Ad Tryz.f93 16 [(1,.any),(8,.any),(9,hsl_TIn),(42,hsl_sl_TIn),(43,.any),(44,.any),(53,hsl_TIn),(54,.any),(55,.any)] [] [] X_f4_16 (fun x=>[(CR e_TPg) x.DQ,(V.int .i64) x.t_8,esl_TIn x.l_9,esl_sl_TIn x.Hs,(V.int .i64) x.LP,(V.int .i64) x.Gj,esl_TIn x.TE,(V.int .i64) x.UN,(V.int .i64) x.QR]) fun l=>⟨(CS d_TPg) (at_ l 0),dI (at_ l 1),dsl_TIn (at_ l 2),dsl_sl_TIn (at_ l 3),dI (at_ l 4),dI (at_ l 5),dsl_TIn (at_ l 6),dI (at_ l 7),dI (at_ l 8)⟩
structure X_f4_22 where
 DQ : TPg
 Hs : (Sl (Sl TIn))
 LP : Int
 Gj : Int
def S_f4_22 : AM :=
 Ad Tryz.f93 22 [(1,.any),(42,hsl_sl_TIn),(43,.any),(44,.any)] [] [] X_f4_22 (fun x=>[(CR e_TPg) x.DQ,esl_sl_TIn x.Hs,(V.int .i64) x.LP,(V.int .i64) x.Gj]) fun l=>⟨(CS d_TPg) (at_ l 0),dsl_sl_TIn (at_ l 1),dI (at_ l 2),dI (at_ l 3)⟩
def tt_f4_22 (D_f4_11 : AQ X_f4_11 R_f4) (x : X_f4_22) : TT Tryz.prog R_f4 :=
 (.jump S_f4_11 D_f4_11 (X_f4_11.mk x.DQ x.Hs x.LP (IntKind.i64.wrap (x.Gj + 1))))
theorem sd_f4_22 (D_f4_11 : AQ X_f4_11 R_f4) (x : X_f4_22) : (tt_f4_22 D_f4_11 x).AH :=
 TT.sJ
def D_f4_22 (D_f4_11 : AQ X_f4_11 R_f4) : AQ X_f4_22 R_f4:=.of (tt_f4_22 D_f4_11)
theorem ok_f4_22 (D_f4_11 : AQ X_f4_11 R_f4) (h_11 : AV J_f4 S_f4_11 D_f4_11) : AV J_f4 S_f4_22 (D_f4_22 D_f4_11) :=
 lk mxk (lbc h_11 rfl lbn) (sd_f4_22 D_f4_11)
def tt_f4_16 (D_f4_11 : AQ X_f4_11 R_f4) (D_f4_16 : AQ X_f4_16 R_f4) (x : X_f4_16) : TT Tryz.prog R_f4 :=
 (.ite (BS x.QR x.UN)
 (.need (A0 x.QR x.TE.n) <|
 (.call con_f3m (x.DQ,((x.TE.get (Int.toNat x.QR)),((x.l_9.n : Nat) : Int))) fun (y3 : R_f3m) =>
 (.ite (!(AX y3 0))
 (.ret (x.t_8,(x.QR,y3)))
 (.jump S_f4_16 D_f4_16 (X_f4_16.mk x.DQ x.t_8 x.l_9 x.Hs x.LP x.Gj x.TE x.UN (IntKind.i64.wrap (x.QR + 1)))))))
 (.jump S_f4_22 (D_f4_22 D_f4_11) (X_f4_22.mk x.DQ x.Hs x.LP x.Gj)))
theorem sd_f4_16 (D_f4_11 : AQ X_f4_11 R_f4) (D_f4_16 : AQ X_f4_16 R_f4) (x : X_f4_16) : (tt_f4_16 D_f4_11 D_f4_16 x).AH :=
 (TT.sI (TT.sN (TT.sC fun _=>(TT.sI TT.sR TT.sJ))) TT.sJ)
def D_f4_16 (D_f4_11 : AQ X_f4_11 R_f4) : AQ X_f4_16 R_f4:=AQ.loop (tt_f4_16 D_f4_11)
theorem ok_f4_16 (D_f4_11 : AQ X_f4_11 R_f4) (h_11 : AV J_f4 S_f4_11 D_f4_11) : AV J_f4 S_f4_16 (D_f4_16 D_f4_11) :=
 Az fun D_f4_16 h_16=>lk mxk (lbc h_11 rfl (lbc h_16 rfl (lbc (ok_f4_22 D_f4_11 h_11) rfl lbn))) (sd_f4_16 D_f4_11 D_f4_16)
def tt_f4_11 (D_f4_11 : AQ X_f4_11 R_f4) (x : X_f4_11) : TT Tryz.prog R_f4 :=
 (.ite (BS x.Gj x.LP)
 (.need (A0 x.Gj x.Hs.n) <|
 (.ite (BS 256 (((x.Hs.get (Int.toNat x.Gj)).n : Nat) : Int))
 (.ret (x.Gj,(256,4)))
 (.jump S_f4_16 (D_f4_16 D_f4_11) (X_f4_16.mk x.DQ x.Gj (x.Hs.get (Int.toNat x.Gj)) x.Hs x.LP x.Gj (x.Hs.get (Int.toNat x.Gj)) (((x.Hs.get (Int.toNat x.Gj)).n : Nat) : Int) 0))))
 (.ret (0,(0,0))))
theorem sd_f4_11 (D_f4_11 : AQ X_f4_11 R_f4) (x : X_f4_11) : (tt_f4_11 D_f4_11 x).AH :=
 (TT.sI (TT.sN (TT.sI TT.sR TT.sJ)) TT.sR)
def D_f4_11 : AQ X_f4_11 R_f4:=AQ.loop tt_f4_11
theorem ok_f4_11 : AV J_f4 S_f4_11 D_f4_11 :=
 Az fun D_f4_11 h_11=>lk mxk (lbc h_11 rfl (lbc (ok_f4_22 D_f4_11 h_11) rfl (lbc (ok_f4_16 D_f4_11 h_11) rfl lbn))) (sd_f4_11 D_f4_11)
def tt_f4_10 (x : X_f4_10) : TT Tryz.prog R_f4 :=
 (.jump S_f4_11 D_f4_11 (X_f4_11.mk x.DQ x.DQ.AB ((x.DQ.AB.n : Nat) : Int) 0))
theorem sd_f4_10 (x : X_f4_10) : (tt_f4_10 x).AH :=
 TT.sJ
def D_f4_10 : AQ X_f4_10 R_f4:=.of tt_f4_10
theorem ok_f4_10 : AV J_f4 S_f4_10 D_f4_10 :=
 lk mxk (lbc ok_f4_11 rfl lbn) sd_f4_10
def tt_f4_5 (D_f4_5 : AQ X_f4_5 R_f4) (x : X_f4_5) : TT Tryz.prog R_f4 :=
 (.ite (BS x.FU x.UO)
 (.need (A0 x.FU x.TH.n) <|
 (.call con_f27 (x.TH.get (Int.toNat x.FU)) fun (y2 : R_f27) =>
 (.ite (!y2)
 (.ret ((-(1 : Int)),(x.FU,7)))
 (.jump S_f4_5 D_f4_5 (X_f4_5.mk x.DQ x.TH x.UO (IntKind.i64.wrap (x.FU + 1)))))))
 (.jump S_f4_10 D_f4_10 (X_f4_10.mk x.DQ)))
theorem sd_f4_5 (D_f4_5 : AQ X_f4_5 R_f4) (x : X_f4_5) : (tt_f4_5 D_f4_5 x).AH :=
 (TT.sI (TT.sN (TT.sC fun _=>(TT.sI TT.sR TT.sJ))) TT.sJ)
def D_f4_5 : AQ X_f4_5 R_f4:=AQ.loop tt_f4_5
theorem ok_f4_5 : AV J_f4 S_f4_5 D_f4_5 :=
 Az fun D_f4_5 h_5=>lk mxk (lbc h_5 rfl (lbc ok_f4_11 rfl (lbc ok_f4_10 rfl lbn))) (sd_f4_5 D_f4_5)
def tt_f4_4 (x : X_f4_4) : TT Tryz.prog R_f4 :=
 (.jump S_f4_5 D_f4_5 (X_f4_5.mk x.DQ x.DQ.AJ ((x.DQ.AJ.n : Nat) : Int) 0))
theorem sd_f4_4 (x : X_f4_4) : (tt_f4_4 x).AH :=
 TT.sJ
def D_f4_4 : AQ X_f4_4 R_f4:=.of tt_f4_4
theorem ok_f4_4 : AV J_f4 S_f4_4 D_f4_4 :=
 lk mxk (lbc ok_f4_11 rfl (lbc ok_f4_10 rfl (lbc ok_f4_5 rfl lbn))) sd_f4_4
def tt_f4 (x : X_f4) : TT Tryz.prog R_f4 :=
 (.ite (AX ((x.AB.n : Nat) : Int) 0)
 (.ret (0,(0,1)))
 (.ite (BS 8 ((x.AB.n : Nat) : Int))
 (.ret (0,(0,1)))
 (.ite (BS 8 ((x.AJ.n : Nat) : Int))
 (.ret (0,(0,1)))
 (.jump S_f4_4 D_f4_4 (X_f4_4.mk x)))))
theorem sd_f4 (x : X_f4) : (tt_f4 x).AH :=
 (TT.sI TT.sR (TT.sI TT.sR (TT.sI TT.sR TT.sJ)))
def D_f4 : AQ X_f4 R_f4:=.of tt_f4
def con_f4 : A3 Tryz.prog :=
 BZ 93 J_f4 S_f4 D_f4 1 0 [sh_TPg] (lk mxk (lbc ok_f4_11 rfl (lbc ok_f4_10 rfl (lbc ok_f4_5 rfl (lbc ok_f4_4 rfl lbn)))) sd_f4)
abbrev X_f3n : Type:=TPg
abbrev R_f3n : Type:=Bool
def J_f3n : A9 Tryz.prog :=
 BF Tryz.prog Tryz.f53 14 [(1,3),(6,1)] [] [] [] [.any] [] [con_f4] R_f3n [] fun y=>[V.bool y]
def S_f3n : AM :=
 Ae Tryz.f53 1 0 X_f3n (fun x=>[e_TPg x]) fun l=>(d_TPg (at_ l 0))
def tt_f3n (x : X_f3n) : TT Tryz.prog R_f3n :=
 (.call con_f4 x fun (y1 : R_f4) =>
 (.ret (AX y1.snd.snd 0)))
theorem sd_f3n (x : X_f3n) : (tt_f3n x).AH :=
 (TT.sC fun _=>TT.sR)
def D_f3n : AQ X_f3n R_f3n:=.of tt_f3n
def con_f3n : A3 Tryz.prog :=
 BZ 53 J_f3n S_f3n D_f3n 1 0 [sh_TPg] (lk mxk lbn sd_f3n)
abbrev X_f25 : Type:=(Sl TRg)
abbrev R_f25 : Type:=(Sl TRg)
def J_f25 : A9 Tryz.prog :=
 BF Tryz.prog Tryz.f94 8 [(6,1)] [] [] [.shut 2] [hsl_TRg] [] [] R_f25 [] fun y=>[esl_TRg y]
def S_f25 : AM :=
 Ae Tryz.f94 1 0 X_f25 (fun x=>[esl_TRg x]) fun l=>(dsl_TRg (at_ l 0))
def tt_f25 (x : X_f25) : TT Tryz.prog R_f25 :=
 (.ite x.nil
 (.ret (Sl.mk true 0 (fun i1=>(TRg.mk 0 0 0))))
 (.need (true && (room ((0 : Nat) + x.n) 24)) <|
 (.ret (Sl.mk (cond (Nat.beq x.n 0) false false) ((0 : Nat) + x.n) (fun i1=>(TRg.mk (cond (Nat.blt i1 0) (0 : Int) (x.get (i1 - 0)).Kind) (cond (Nat.blt i1 0) (0 : Int) (x.get (i1 - 0)).Cn) (cond (Nat.blt i1 0) (0 : Int) (x.get (i1 - 0)).AU)))))))
theorem sd_f25 (x : X_f25) : (tt_f25 x).AH :=
 (TT.sI TT.sR (TT.sN TT.sR))
def D_f25 : AQ X_f25 R_f25:=.of tt_f25
def con_f25 : A3 Tryz.prog :=
 BZ 94 J_f25 S_f25 D_f25 1 0 [hsl_TRg] (lk mxk lbn sd_f25)
abbrev X_f1y : Type:=(Sl TIn)
abbrev R_f1y : Type:=(Sl TIn)
def J_f1y : A9 Tryz.prog :=
 BF Tryz.prog Tryz.f95 8 [(6,1)] [] [] [.shut 2] [hsl_TIn] [] [] R_f1y [] fun y=>[esl_TIn y]
def S_f1y : AM :=
 Ae Tryz.f95 1 0 X_f1y (fun x=>[esl_TIn x]) fun l=>(dsl_TIn (at_ l 0))
def tt_f1y (x : X_f1y) : TT Tryz.prog R_f1y :=
 (.ite x.nil
 (.ret (Sl.mk true 0 (fun i1=>(TIn.mk 0 0 0 0 0 0))))
 (.need (true && (room ((0 : Nat) + x.n) 48)) <|
 (.ret (Sl.mk (cond (Nat.beq x.n 0) false false) ((0 : Nat) + x.n) (fun i1=>(TIn.mk (cond (Nat.blt i1 0) (0 : Int) (x.get (i1 - 0)).Op) (cond (Nat.blt i1 0) (0 : Int) (x.get (i1 - 0)).A) (cond (Nat.blt i1 0) (0 : Int) (x.get (i1 - 0)).B) (cond (Nat.blt i1 0) (0 : Int) (x.get (i1 - 0)).C) (cond (Nat.blt i1 0) (0 : Int) (x.get (i1 - 0)).D) (cond (Nat.blt i1 0) (0 : Int) (x.get (i1 - 0)).K)))))))
theorem sd_f1y (x : X_f1y) : (tt_f1y x).AH :=
 (TT.sI TT.sR (TT.sN TT.sR))
def D_f1y : AQ X_f1y R_f1y:=.of tt_f1y
def con_f1y : A3 Tryz.prog :=
 BZ 95 J_f1y S_f1y D_f1y 1 0 [hsl_TIn] (lk mxk lbn sd_f1y)
abbrev DslA_sl_TIn : Type:=(Sl (Sl TIn))
def eslA_sl_TIn : DslA_sl_TIn → V:=(LA (some 79) 1 esl_TIn)
def dslA_sl_TIn : V → DslA_sl_TIn:=(LX dsl_TIn)
def hslA_sl_TIn : Sh:=(.sl (some 79) 1 (esl_TIn (dsl_TIn .undef)))
def e_TPg_1 (x : TPg) : V :=
 V.cons (esl_TRg x.AJ) (V.cons (eslA_sl_TIn x.AB) (V.unit))
theorem nu_e_TPg_1 (x : TPg) : (e_TPg_1 x).CV:=⟨trivial,trivial,trivial⟩
def sh_TPg_1 : Sh:=(.cons hsl_TRg (.cons hslA_sl_TIn .any))
abbrev X_fz : Type:=TPg
abbrev R_fz : Type:=TPg
def J_fz : A9 Tryz.prog :=
 BF Tryz.prog Tryz.f54 26 [(1,3),(18,1),(19,1)] [] [] [] [sh_TPg] [] [con_f1y,con_f25] R_fz [] fun y=>[e_TPg y]
def S_fz : AM :=
 Ae Tryz.f54 1 0 X_fz (fun x=>[e_TPg x]) fun l=>(d_TPg (at_ l 0))
structure X_fz_3 where
 Rn : (Sl (Sl TIn))
 Nf : Int
 HR : Int
 Fe : TPg
 BG : TPg
def S_fz_3 : AM :=
 Ad Tryz.f54 3 [(2,.any),(3,.any),(11,hsl_sl_TIn),(12,.any),(13,.any)] [] [(.loc 2 0,sh_TPg),(.loc 3 0,sh_TPg_1)] X_fz_3 (fun x=>[(V.ptr (.loc 2 0) []),(V.ptr (.loc 3 0) []),esl_sl_TIn x.Rn,(V.int .i64) x.Nf,(V.int .i64) x.HR,e_TPg x.Fe,e_TPg_1 x.BG]) fun l=>⟨dsl_sl_TIn (at_ l 2),dI (at_ l 3),dI (at_ l 4),d_TPg (at_ l 5),d_TPg (at_ l 6)⟩
def tt_fz_3 (D_fz_3 : AQ X_fz_3 R_fz) (x : X_fz_3) : TT Tryz.prog R_fz :=
 (.ite (BS x.HR x.Nf)
 (.need (A0 x.HR x.Rn.n) <|
 (.call con_f1y (x.Rn.get (Int.toNat x.HR)) fun (y2 : R_f1y) =>
 (.need (true && (room (x.BG.AB.n + 1) 24)) <|
 (.jump S_fz_3 D_fz_3 (X_fz_3.mk x.Rn x.Nf (IntKind.i64.wrap (x.HR + 1)) x.Fe (TPg.mk x.BG.AJ (Sl.mk (cond (Nat.beq 1 0) x.BG.AB.nil false) (x.BG.AB.n + 1) (fun i3=>(Sl.mk (cond (Nat.blt i3 x.BG.AB.n) (x.BG.AB.get i3).nil y2.nil) (cond (Nat.blt i3 x.BG.AB.n) (x.BG.AB.get i3).n y2.n) (fun i4=>(TIn.mk (cond (Nat.blt i3 x.BG.AB.n) ((x.BG.AB.get i3).get i4).Op (y2.get i4).Op) (cond (Nat.blt i3 x.BG.AB.n) ((x.BG.AB.get i3).get i4).A (y2.get i4).A) (cond (Nat.blt i3 x.BG.AB.n) ((x.BG.AB.get i3).get i4).B (y2.get i4).B) (cond (Nat.blt i3 x.BG.AB.n) ((x.BG.AB.get i3).get i4).C (y2.get i4).C) (cond (Nat.blt i3 x.BG.AB.n) ((x.BG.AB.get i3).get i4).D (y2.get i4).D) (cond (Nat.blt i3 x.BG.AB.n) ((x.BG.AB.get i3).get i4).K (y2.get i4).K))))))))))))
 (.ret x.BG))
theorem sd_fz_3 (D_fz_3 : AQ X_fz_3 R_fz) (x : X_fz_3) : (tt_fz_3 D_fz_3 x).AH :=
 (TT.sI (TT.sN (TT.sC fun _=>(TT.sN TT.sJ))) TT.sR)
def D_fz_3 : AQ X_fz_3 R_fz:=AQ.loop tt_fz_3
theorem ok_fz_3 : AV J_fz S_fz_3 D_fz_3 :=
 Az fun D_fz_3 h_3=>lk mxk (lbc h_3 rfl lbn) (sd_fz_3 D_fz_3)
def tt_fz (x : X_fz) : TT Tryz.prog R_fz :=
 (.call con_f25 x.AJ fun (y1 : R_f25) =>
 (.jump S_fz_3 D_fz_3 (X_fz_3.mk x.AB ((x.AB.n : Nat) : Int) 0 (TPg.mk (Sl.mk true 0 (fun i2=>(TRg.mk 0 0 0))) (Sl.mk true 0 (fun i2=>(Sl.mk true 0 (fun i3=>(TIn.mk 0 0 0 0 0 0)))))) (TPg.mk y1 (Sl.mk true 0 (fun i2=>(Sl.mk true 0 (fun i3=>(TIn.mk 0 0 0 0 0 0)))))))))
theorem sd_fz (x : X_fz) : (tt_fz x).AH :=
 (TT.sC fun _=>TT.sJ)
def D_fz : AQ X_fz R_fz:=.of tt_fz
def con_fz : A3 Tryz.prog :=
 BZ 54 J_fz S_fz D_fz 1 0 [sh_TPg] (lk mxk (lbc ok_fz_3 rfl lbn) sd_fz)
abbrev X_f3t : Type:=Int × Int
abbrev R_f3t : Type:=Bool
def J_f3t : A9 Tryz.prog :=
 BF Tryz.prog Tryz.f139 19 [] [] [] [] [.any] [] [] R_f3t [] fun y=>[V.bool y]
def S_f3t : AM :=
 Ae Tryz.f139 2 0 X_f3t (fun x=>[(V.int .i64) x.1,(V.int .i64) x.2]) fun l=>(dI (at_ l 0),dI (at_ l 1))
def tt_f3t (x : X_f3t) : TT Tryz.prog R_f3t :=
 (.ite (Bd 1 x.fst)
 (.ite (Bd x.fst 64)
 (.ite (Bd 1 x.snd)
 (.ret (Bd x.snd 8))
 (.ret false))
 (.ret false))
 (.ret false))
theorem sd_f3t (x : X_f3t) : (tt_f3t x).AH :=
 (TT.sI (TT.sI (TT.sI TT.sR TT.sR) TT.sR) TT.sR)
def D_f3t : AQ X_f3t R_f3t:=.of tt_f3t
def con_f3t : A3 Tryz.prog :=
 BZ 139 J_f3t S_f3t D_f3t 2 0 [.any,.any] (lk mxk lbn sd_f3t)
abbrev X_f2u : Type:=Int
abbrev R_f2u : Type:=Int
def J_f2u : A9 Tryz.prog :=
 BF Tryz.prog Tryz.f140 5 [] [] [] [] [.any] [] [] R_f2u [] fun y=>[(V.int .u64) y]
def S_f2u : AM :=
 Ae Tryz.f140 1 0 X_f2u (fun x=>[(V.int .u64) x]) fun l=>(dI (at_ l 0))
def tt_f2u (x : X_f2u) : TT Tryz.prog R_f2u :=
 (.ret (IntKind.u64.wrap ((2 : Int) * x)))
theorem sd_f2u (x : X_f2u) : (tt_f2u x).AH :=
 TT.sR
def D_f2u : AQ X_f2u R_f2u:=.of tt_f2u
def con_f2u : A3 Tryz.prog :=
 BZ 140 J_f2u S_f2u D_f2u 1 0 [.any] (lk mxk lbn sd_f2u)
def d_TSo (v : V) : TSo :=
 ⟨dI (fd v 0),dI (fd v 1),dI (fd v 2)⟩
def e_TSo (x : TSo) : V :=
 V.cons ((V.int .u64) x.AO) (V.cons ((V.int .u64) x.Value) (V.cons ((V.int .i64) x.Left) (V.unit)))
theorem nu_e_TSo (x : TSo) : (e_TSo x).CV:=⟨trivial,trivial,trivial,trivial⟩
abbrev Dsl_TSo : Type:=(Sl TSo)
def esl_TSo : Dsl_TSo → V:=(LA none 3 e_TSo)
def dsl_TSo : V → Dsl_TSo:=(LX d_TSo)
def hsl_TSo : Sh:=(.sl none 3 (e_TSo (d_TSo .undef)))
abbrev Dosl_TSo : Type:=(Sl TSo)
def eosl_TSo : Dosl_TSo → V:=(Tm 206 3 e_TSo)
def dosl_TSo : V → Dosl_TSo:=(LX d_TSo)
def hosl_TSo : Sh:=(.A4 206 3 (e_TSo (d_TSo .undef)))
structure TSs where
 l : (Sl TSo)
 AW : Int
def d_TSs (v : V) : TSs :=
 ⟨dosl_TSo (fd v 0),dI (fd v 1)⟩
def e_TSs (x : TSs) : V :=
 V.cons (eosl_TSo x.l) (V.cons ((V.int .i64) x.AW) (V.unit))
theorem nu_e_TSs (x : TSs) : (e_TSs x).CV:=⟨(fun _ _=>(nu_e_TSo) _ : ∀ y,(eosl_TSo y).CV) x.l,trivial,trivial⟩
def sh_TSs : Sh:=(.cons hosl_TSo .any)
abbrev Dbox_TSs : Type:=(Bx TSs)
def ebox_TSs : Dbox_TSs → V:=(eBx e_TSs)
def dbox_TSs : V → Dbox_TSs:=(dBx d_TSs)
def hbox_TSs : Sh:=(.box (e_TSs (d_TSs .undef)))
abbrev X_f1w : Type:=Int × Int
abbrev R_f1w : Type:=(Bx TSs) × Int
def J_f1w : A9 Tryz.prog :=
 BF Tryz.prog Tryz.f96 37 [(13,1)] [(5,[.close (.loc 28 0),.close (.loc 20 0)]),(6,[.close (.loc 28 0),.close (.loc 20 0)]),(7,[.close (.loc 28 0),.close (.loc 20 0)]),(8,[.close (.loc 28 0),.close (.loc 20 0)]),(9,[.close (.loc 28 0),.close (.loc 20 0)])] [(7,[.Ir (.loc 16 0) [.CI 0 0] 28])] [.close (.loc 28 0),.close (.loc 20 0),.shut 4] [hbox_TSs,.any] [] [con_f2u,con_f3t] R_f1w [(0,[⟨.loc 28 0,.loc 16 0,[.CI 0 0],none,none⟩]),(5,[⟨.loc 28 0,.loc 16 0,[.CI 0 0],none,none⟩])] fun y=>[V.CC (V.cons (ebox_TSs y.1) (V.cons ((V.int .i64) y.2) (V.unit)))]
def S_f1w : AM :=
 Ae Tryz.f96 2 0 X_f1w (fun x=>[(V.int .i64) x.1,(V.int .i64) x.2]) fun l=>(dI (at_ l 0),dI (at_ l 1))
structure X_f1w_5 where
 LQ : Int
 Gk : Int
 GG : TSs
def S_f1w_5 : AM :=
 Ad Tryz.f96 5 (an [6,21,22]) [] [(.loc 16 0,sh_TSs)] X_f1w_5 (fun x=>[(V.ptr (.loc 16 0) []),(V.int .i64) x.LQ,(V.int .i64) x.Gk,e_TSs x.GG]) fun l=>⟨dI (at_ l 1),dI (at_ l 2),d_TSs (at_ l 3)⟩
def tt_f1w_5 (D_f1w_5 : AQ X_f1w_5 R_f1w) (x : X_f1w_5) : TT Tryz.prog R_f1w :=
 (.ite (BS x.Gk x.LQ)
 (.call con_f2u (IntKind.u64.wrap x.Gk) fun (y2 : R_f2u) =>
 (.need (A0 x.Gk x.GG.l.n) <|
 (.need ((Nat.beq x.GG.l.n x.GG.l.n) && true) <|
 (.need ((true && true) && (Nat.beq x.GG.l.n x.GG.l.n)) <|
 (.jump S_f1w_5 D_f1w_5 (X_f1w_5.mk x.LQ (IntKind.i64.wrap (x.Gk + 1)) (TSs.mk (Sl.mk x.GG.l.nil x.GG.l.n (fun i3=>(TSo.mk (cond (Nat.beq i3 ((0 : Nat) + (Int.toNat x.Gk))) y2 (x.GG.l.get i3).AO) (cond (Nat.beq i3 ((0 : Nat) + (Int.toNat x.Gk))) (x.GG.l.get ((0 : Nat) + (Int.toNat x.Gk))).Value (x.GG.l.get i3).Value) (cond (Nat.beq i3 ((0 : Nat) + (Int.toNat x.Gk))) (x.GG.l.get ((0 : Nat) + (Int.toNat x.Gk))).Left (x.GG.l.get i3).Left)))) x.GG.AW)))))))
 (.ret ((Bx.mk false x.GG),0)))
theorem sd_f1w_5 (D_f1w_5 : AQ X_f1w_5 R_f1w) (x : X_f1w_5) : (tt_f1w_5 D_f1w_5 x).AH :=
 (TT.sI (TT.sC fun _=>(TT.sN (TT.sN (TT.sN TT.sJ)))) TT.sR)
def D_f1w_5 : AQ X_f1w_5 R_f1w:=AQ.loop tt_f1w_5
theorem ok_f1w_5 : AV J_f1w S_f1w_5 D_f1w_5 :=
 Az fun D_f1w_5 h_5=>lk mxk (lbc h_5 rfl lbn) (sd_f1w_5 D_f1w_5)
def tt_f1w (x : X_f1w) : TT Tryz.prog R_f1w :=
 (.call con_f3t x fun (y1 : R_f3t) =>
 (.ite (!y1)
 (.ret ((Bx.mk true (TSs.mk (Sl.mk true 0 (fun i2=>(TSo.mk 0 0 0))) 0)),1))
 (.need ((((upto x.fst (Int.toNat x.fst)) && (Bd 0 x.fst)) && (room (Int.toNat x.fst) 24)) && (decide ((x.fst ≤ (9223372036854775807 : Int))))) <|
 (.need ((true && true) && (Nat.beq (Int.toNat x.fst) (Int.toNat x.fst))) <|
 (.jump S_f1w_5 D_f1w_5 (X_f1w_5.mk (((Int.toNat x.fst) : Nat) : Int) 0 (TSs.mk (Sl.mk false (Int.toNat x.fst) (fun i2=>(TSo.mk 0 0 0))) x.snd)))))))
theorem sd_f1w (x : X_f1w) : (tt_f1w x).AH :=
 (TT.sC fun _=>(TT.sI TT.sR (TT.sN (TT.sN TT.sJ))))
def D_f1w : AQ X_f1w R_f1w:=.of tt_f1w
def con_f1w : A3 Tryz.prog :=
 BZ 96 J_f1w S_f1w D_f1w 2 0 [.any,.any] (lk mxk (lbc ok_f1w_5 rfl lbn) sd_f1w)
abbrev X_f46 : Type:=TRg
abbrev R_f46 : Type:=Bool
def J_f46 : A9 Tryz.prog :=
 BF Tryz.prog Tryz.f97 12 [(1,3)] [] [] [] [.any] [] [] R_f46 [] fun y=>[V.bool y]
def S_f46 : AM :=
 Ae Tryz.f97 1 0 X_f46 (fun x=>[e_TRg x]) fun l=>(d_TRg (at_ l 0))
def tt_f46 (x : X_f46) : TT Tryz.prog R_f46 :=
 (.ite (AX x.Kind 1)
 (.ret (AX x.AU 1))
 (.ite (AX x.Kind 2)
 (.ret true)
 (.ret false)))
theorem sd_f46 (x : X_f46) : (tt_f46 x).AH :=
 (TT.sI TT.sR (TT.sI TT.sR TT.sR))
def D_f46 : AQ X_f46 R_f46:=.of tt_f46
def con_f46 : A3 Tryz.prog :=
 BZ 97 J_f46 S_f46 D_f46 1 0 [.any] (lk mxk lbn sd_f46)
abbrev OX : Type:=(Sl Int)
def Kr : OX → V:=(Tm 41 1 (V.int .u64))
def Sb : V → OX:=(LX dI)
def N0 : Sh:=(.A4 41 1 (V.int .u64 0))
structure TRc where
 tail : Int
 AD : (Sl Int)
def d_TRc (v : V) : TRc :=
 ⟨dI (fd v 0),Sb (fd v 1)⟩
def e_TRc (x : TRc) : V :=
 V.cons ((V.int .u64) x.tail) (V.cons (Kr x.AD) (V.unit))
theorem nu_e_TRc (x : TRc) : (e_TRc x).CV:=⟨trivial,(fun _ _=>trivial : ∀ y,(Kr y).CV) x.AD,trivial⟩
def sh_TRc : Sh:=(.cons .any (.cons N0 .any))
structure TRr where
 AA : TRc
 s : (Bx TSs)
 most : Int
 closed : Bool
def d_TRr (v : V) : TRr :=
 ⟨d_TRc (fd v 0),dbox_TSs (fd v 1),dI (fd v 2),dB (fd v 3)⟩
def e_TRr (x : TRr) : V :=
 V.cons (e_TRc x.AA) (V.cons (ebox_TSs x.s) (V.cons ((V.int .u64) x.most) (V.cons (V.bool x.closed) (V.unit))))
theorem nu_e_TRr (x : TRr) : (e_TRr x).CV:=⟨(nu_e_TRc : ∀ y,(e_TRc y).CV) x.AA,(fun _=>(nu_e_TSs) _ : ∀ y,(ebox_TSs y).CV) x.s,trivial,trivial,trivial⟩
def sh_TRr : Sh:=(.cons sh_TRc (.cons hbox_TSs .any))
abbrev Dbox_TRr : Type:=(Bx TRr)
def ebox_TRr : Dbox_TRr → V:=(eBx e_TRr)
def dbox_TRr : V → Dbox_TRr:=(dBx d_TRr)
def hbox_TRr : Sh:=(.box (e_TRr (d_TRr .undef)))
abbrev X_f2t : Type:=TRg
abbrev R_f2t : Type:=(Bx TRr) × Int
def J_f2t : A9 Tryz.prog :=
 BF Tryz.prog Tryz.f55 31 [(1,3),(6,1),(23,1),(25,1)] [] [] [.shut 2] [hbox_TRr,.any] [] [con_f46,con_f1w] R_f2t [] fun y=>[V.CC (V.cons (ebox_TRr y.1) (V.cons ((V.int .i64) y.2) (V.unit)))]
def S_f2t : AM :=
 Ae Tryz.f55 1 0 X_f2t (fun x=>[e_TRg x]) fun l=>(d_TRg (at_ l 0))
structure X_f2t_4 where
 NF : TRg
 s_4 : (Bx TSs)
def S_f2t_4 : AM :=
 Ad Tryz.f55 4 [(1,.any),(4,hbox_TSs)] [] [] X_f2t_4 (fun x=>[(CR e_TRg) x.NF,ebox_TSs x.s_4]) fun l=>⟨(CS d_TRg) (at_ l 0),dbox_TSs (at_ l 1)⟩
def tt_f2t_4 (x : X_f2t_4) : TT Tryz.prog R_f2t :=
 (.need ((((upto x.NF.AU (Int.toNat x.NF.AU)) && (Bd 0 x.NF.AU)) && (room (Int.toNat x.NF.AU) 8)) && (decide ((x.NF.AU ≤ (9223372036854775807 : Int))))) <|
 (.ret ((Bx.mk false (TRr.mk (TRc.mk 0 (Sl.mk false (Int.toNat x.NF.AU) (fun i1=>(0 : Int)))) x.s_4 (IntKind.u64.wrap x.NF.Cn) false)),0)))
theorem sd_f2t_4 (x : X_f2t_4) : (tt_f2t_4 x).AH :=
 (TT.sN TT.sR)
def D_f2t_4 : AQ X_f2t_4 R_f2t:=.of tt_f2t_4
theorem ok_f2t_4 : AV J_f2t S_f2t_4 D_f2t_4 :=
 lk mxk lbn sd_f2t_4
def tt_f2t (x : X_f2t) : TT Tryz.prog R_f2t :=
 (.call con_f1w (x.Cn,x.AU) fun (y1 : R_f1w) =>
 (.ite (!(AX y1.snd 0))
 (.ret ((Bx.mk true (TRr.mk (TRc.mk 0 (Sl.mk true 0 (fun i2=>(0 : Int)))) (Bx.mk true (TSs.mk (Sl.mk true 0 (fun i2=>(TSo.mk 0 0 0))) 0)) 0 false)),1))
 (.call con_f46 x fun (y2 : R_f46) =>
 (.ite (!y2)
 (.ret ((Bx.mk true (TRr.mk (TRc.mk 0 (Sl.mk true 0 (fun i3=>(0 : Int)))) (Bx.mk true (TSs.mk (Sl.mk true 0 (fun i3=>(TSo.mk 0 0 0))) 0)) 0 false)),1))
 (.jump S_f2t_4 D_f2t_4 (X_f2t_4.mk x y1.fst))))))
theorem sd_f2t (x : X_f2t) : (tt_f2t x).AH :=
 (TT.sC fun _=>(TT.sI TT.sR (TT.sC fun _=>(TT.sI TT.sR TT.sJ))))
def D_f2t : AQ X_f2t R_f2t:=.of tt_f2t
def con_f2t : A3 Tryz.prog :=
 BZ 55 J_f2t S_f2t D_f2t 1 0 [.any] (lk mxk (lbc ok_f2t_4 rfl lbn) sd_f2t)
abbrev Dsl_box_TRr : Type:=(Sl (Bx TRr))
def esl_box_TRr : Dsl_box_TRr → V:=(LA none 1 ebox_TRr)
def dsl_box_TRr : V → Dsl_box_TRr:=(LX dbox_TRr)
def hsl_box_TRr : Sh:=(.sl none 1 (ebox_TRr (dbox_TRr .undef)))
abbrev P8 : Type:=(Sl Int)
def EU : P8 → V:=(LA none 1 (V.int .u64))
def FO : V → P8:=(LX dI)
def Ep : Sh:=(.sl none 1 (V.int .u64 0))
structure TTh where
 At : Int
 Phase : Int
 Ring : Int
 Status : Int
 AG : Int
 Af : (Nat → Int)
 Seen : (Sl Int)
def d_TTh (v : V) : TTh :=
 ⟨dI (fd v 0),dI (fd v 1),dI (fd v 2),dI (fd v 3),dI (fd v 4),(U6 dI) (fd v 5),FO (fd v 6)⟩
def e_TTh (x : TTh) : V :=
 V.cons ((V.int .i64) x.At) (V.cons ((V.int .i64) x.Phase) (V.cons ((V.int .i64) x.Ring) (V.cons ((V.int .i64) x.Status) (V.cons ((V.int .u64) x.AG) (V.cons ((Sa 1 8 (V.int .u64)) x.Af) (V.cons (EU x.Seen) (V.unit)))))))
theorem nu_e_TTh (x : TTh) : (e_TTh x).CV:=⟨trivial,trivial,trivial,trivial,trivial,(fun _ _=>trivial : ∀ y,((Sa 1 8 (V.int .u64)) y).CV) x.Af,trivial,trivial⟩
def sh_TTh : Sh:=(.cons .any (.cons .any (.cons .any (.cons .any (.cons .any (.cons .any (.cons Ep .any)))))))
abbrev Dosl_TTh : Type:=(Sl TTh)
def eosl_TTh : Dosl_TTh → V:=(Tm 91 14 e_TTh)
def dosl_TTh : V → Dosl_TTh:=(LX d_TTh)
def hosl_TTh : Sh:=(.A4 91 14 (e_TTh (d_TTh .undef)))
abbrev Dosl_box_TRr : Type:=(Sl (Bx TRr))
def eosl_box_TRr : Dosl_box_TRr → V:=(Tm 102 1 ebox_TRr)
def dosl_box_TRr : V → Dosl_box_TRr:=(LX dbox_TRr)
def hosl_box_TRr : Sh:=(.A4 102 1 (ebox_TRr (dbox_TRr .undef)))
structure TFa where
 p : TPg
 threads : (Sl TTh)
 rings : (Sl (Bx TRr))
 now : Int
 reads : Int
 ended : Bool
def d_TFa (v : V) : TFa :=
 ⟨d_TPg (fd v 0),dosl_TTh (fd v 1),dosl_box_TRr (fd v 2),dI (fd v 3),dI (fd v 4),dB (fd v 5)⟩
def e_TFa (x : TFa) : V :=
 V.cons (e_TPg x.p) (V.cons (eosl_TTh x.threads) (V.cons (eosl_box_TRr x.rings) (V.cons ((V.int .u64) x.now) (V.cons ((V.int .u64) x.reads) (V.cons (V.bool x.ended) (V.unit))))))
theorem nu_e_TFa (x : TFa) : (e_TFa x).CV:=⟨(nu_e_TPg : ∀ y,(e_TPg y).CV) x.p,(fun _ _=>(nu_e_TTh) _ : ∀ y,(eosl_TTh y).CV) x.threads,(fun _ _=>(fun _=>(nu_e_TRr) _) _ : ∀ y,(eosl_box_TRr y).CV) x.rings,trivial,trivial,trivial,trivial⟩
def sh_TFa : Sh:=(.cons sh_TPg (.cons hosl_TTh (.cons hosl_box_TRr .any)))
abbrev Dbox_TFa : Type:=(Bx TFa)
def ebox_TFa : Dbox_TFa → V:=(eBx e_TFa)
def dbox_TFa : V → Dbox_TFa:=(dBx d_TFa)
def hbox_TFa : Sh:=(.box (e_TFa (d_TFa .undef)))
def e_TFa_2 (x : TFa) : V :=
 V.cons (e_TPg x.p) (V.cons (eosl_TTh x.threads) (V.cons (eosl_box_TRr x.rings) (V.cons ((V.int .u64) x.now) (V.cons ((V.int .u64) x.reads) (V.cons (V.bool x.ended) (V.unit))))))
theorem nu_e_TFa_2 (x : TFa) : (e_TFa_2 x).CV:=⟨(nu_e_TPg : ∀ y,(e_TPg y).CV) x.p,(fun _ _=>(nu_e_TTh) _ : ∀ y,(eosl_TTh y).CV) x.threads,(fun _ _=>(fun _=>(nu_e_TRr) _) _ : ∀ y,(eosl_box_TRr y).CV) x.rings,trivial,trivial,trivial,trivial⟩
def sh_TFa_2 : Sh:=(.cons sh_TPg (.cons hosl_TTh (.cons hosl_box_TRr .any)))
abbrev X_f1h : Type:=TPg
abbrev R_f1h : Type:=(Bx TFa) × Int
def J_f1h : A9 Tryz.prog :=
 BF Tryz.prog Tryz.f26 44 [(1,3),(17,1),(27,1),(36,1),(37,1),(38,1)] [] [] [.shut 2] [hbox_TFa,.any] [] [con_f3n,con_fz,con_f2t] R_f1h [] fun y=>[V.CC (V.cons (ebox_TFa y.1) (V.cons ((V.int .i64) y.2) (V.unit)))]
def S_f1h : AM :=
 Ae Tryz.f26 1 0 X_f1h (fun x=>[e_TPg x]) fun l=>(d_TPg (at_ l 0))
structure X_f1h_5 where
 LQ : (Sl TRg)
 Gk : Int
 Im : Int
 B8 : TFa
def S_f1h_5 : AM :=
 Ad Tryz.f26 5 [(4,.any),(21,hsl_TRg),(22,.any),(23,.any)] [] [(.loc 19 0,sh_TFa_2)] X_f1h_5 (fun x=>[(V.ptr (.loc 19 0) []),esl_TRg x.LQ,(V.int .i64) x.Gk,(V.int .i64) x.Im,e_TFa_2 x.B8]) fun l=>⟨dsl_TRg (at_ l 1),dI (at_ l 2),dI (at_ l 3),d_TFa (at_ l 4)⟩
def tt_f1h_5 (D_f1h_5 : AQ X_f1h_5 R_f1h) (x : X_f1h_5) : TT Tryz.prog R_f1h :=
 (.ite (BS x.Im x.Gk)
 (.need (A0 x.Im x.LQ.n) <|
 (.call con_f2t (x.LQ.get (Int.toNat x.Im)) fun (y2 : R_f2t) =>
 (.need (true && (room (x.B8.rings.n + 1) 8)) <|
 (.jump S_f1h_5 D_f1h_5 (X_f1h_5.mk x.LQ x.Gk (IntKind.i64.wrap (x.Im + 1)) (TFa.mk x.B8.p x.B8.threads (Sl.mk (cond (Nat.beq 1 0) x.B8.rings.nil false) (x.B8.rings.n + 1) (fun i3=>(Bx.mk (cond (Nat.blt i3 x.B8.rings.n) (x.B8.rings.get i3).nil y2.fst.nil) (TRr.mk (TRc.mk (cond (Nat.blt i3 x.B8.rings.n) (x.B8.rings.get i3).x.AA.tail y2.fst.x.AA.tail) (Sl.mk (cond (Nat.blt i3 x.B8.rings.n) (x.B8.rings.get i3).x.AA.AD.nil y2.fst.x.AA.AD.nil) (cond (Nat.blt i3 x.B8.rings.n) (x.B8.rings.get i3).x.AA.AD.n y2.fst.x.AA.AD.n) (fun i4=>(cond (Nat.blt i3 x.B8.rings.n) ((x.B8.rings.get i3).x.AA.AD.get i4) (y2.fst.x.AA.AD.get i4))))) (Bx.mk (cond (Nat.blt i3 x.B8.rings.n) (x.B8.rings.get i3).x.s.nil y2.fst.x.s.nil) (TSs.mk (Sl.mk (cond (Nat.blt i3 x.B8.rings.n) (x.B8.rings.get i3).x.s.x.l.nil y2.fst.x.s.x.l.nil) (cond (Nat.blt i3 x.B8.rings.n) (x.B8.rings.get i3).x.s.x.l.n y2.fst.x.s.x.l.n) (fun i4=>(TSo.mk (cond (Nat.blt i3 x.B8.rings.n) ((x.B8.rings.get i3).x.s.x.l.get i4).AO (y2.fst.x.s.x.l.get i4).AO) (cond (Nat.blt i3 x.B8.rings.n) ((x.B8.rings.get i3).x.s.x.l.get i4).Value (y2.fst.x.s.x.l.get i4).Value) (cond (Nat.blt i3 x.B8.rings.n) ((x.B8.rings.get i3).x.s.x.l.get i4).Left (y2.fst.x.s.x.l.get i4).Left)))) (cond (Nat.blt i3 x.B8.rings.n) (x.B8.rings.get i3).x.s.x.AW y2.fst.x.s.x.AW))) (cond (Nat.blt i3 x.B8.rings.n) (x.B8.rings.get i3).x.most y2.fst.x.most) (cond (Nat.blt i3 x.B8.rings.n) (x.B8.rings.get i3).x.closed y2.fst.x.closed))))) x.B8.now x.B8.reads x.B8.ended))))))
 (.ret ((Bx.mk false x.B8),0)))
theorem sd_f1h_5 (D_f1h_5 : AQ X_f1h_5 R_f1h) (x : X_f1h_5) : (tt_f1h_5 D_f1h_5 x).AH :=
 (TT.sI (TT.sN (TT.sC fun _=>(TT.sN TT.sJ))) TT.sR)
def D_f1h_5 : AQ X_f1h_5 R_f1h:=AQ.loop tt_f1h_5
theorem ok_f1h_5 : AV J_f1h S_f1h_5 D_f1h_5 :=
 Az fun D_f1h_5 h_5=>lk mxk (lbc h_5 rfl lbn) (sd_f1h_5 D_f1h_5)
def tt_f1h (x : X_f1h) : TT Tryz.prog R_f1h :=
 (.call con_f3n x fun (y1 : R_f3n) =>
 (.ite (!y1)
 (.ret ((Bx.mk true (TFa.mk (TPg.mk (Sl.mk true 0 (fun i2=>(TRg.mk 0 0 0))) (Sl.mk true 0 (fun i2=>(Sl.mk true 0 (fun i3=>(TIn.mk 0 0 0 0 0 0)))))) (Sl.mk true 0 (fun i2=>(TTh.mk 0 0 0 0 0 (fun i3=>(0 : Int)) (Sl.mk true 0 (fun i3=>(0 : Int)))))) (Sl.mk true 0 (fun i2=>(Bx.mk true (TRr.mk (TRc.mk 0 (Sl.mk true 0 (fun i3=>(0 : Int)))) (Bx.mk true (TSs.mk (Sl.mk true 0 (fun i3=>(TSo.mk 0 0 0))) 0)) 0 false)))) 0 0 false)),1))
 (.call con_fz x fun (y2 : R_fz) =>
 (.need ((((upto ((x.AB.n : Nat) : Int) (Int.toNat ((x.AB.n : Nat) : Int))) && (Bd 0 ((x.AB.n : Nat) : Int))) && (room (Int.toNat ((x.AB.n : Nat) : Int)) 128)) && (decide ((((x.AB.n : Nat) : Int) ≤ (9223372036854775807 : Int))))) <|
 (.jump S_f1h_5 D_f1h_5 (X_f1h_5.mk x.AJ ((x.AJ.n : Nat) : Int) 0 (TFa.mk y2 (Sl.mk false (Int.toNat ((x.AB.n : Nat) : Int)) (fun i3=>(TTh.mk 0 0 0 0 0 (fun i4=>(0 : Int)) (Sl.mk true 0 (fun i4=>(0 : Int)))))) (Sl.mk true 0 (fun i3=>(Bx.mk true (TRr.mk (TRc.mk 0 (Sl.mk true 0 (fun i4=>(0 : Int)))) (Bx.mk true (TSs.mk (Sl.mk true 0 (fun i4=>(TSo.mk 0 0 0))) 0)) 0 false)))) 0 0 false)))))))
theorem sd_f1h (x : X_f1h) : (tt_f1h x).AH :=
 (TT.sC fun _=>(TT.sI TT.sR (TT.sC fun _=>(TT.sN TT.sJ))))
def D_f1h : AQ X_f1h R_f1h:=.of tt_f1h
def con_f1h : A3 Tryz.prog :=
 BZ 26 J_f1h S_f1h D_f1h 1 0 [sh_TPg] (lk mxk (lbc ok_f1h_5 rfl lbn) sd_f1h)
abbrev P9 : Type:=(Sl ByteArray)
def Px : P9 → V:=(LA none 1 V.str)
def Py : V → P9:=(LX dS)
def Mh : Sh:=(.sl none 1 (V.str (dS .undef)))
abbrev X_f3u : Type:=Unit
abbrev R_f3u : Type:=(Sl ByteArray)
def J_f3u : A9 Tryz.prog :=
 BF Tryz.prog Tryz.f86 2 [] [] [] [.shut 0] [Mh] [] [] R_f3u [] fun y=>[Px y]
def S_f3u : AM :=
 Ae Tryz.f86 0 0 X_f3u (fun x=>[]) fun l=>()
def tt_f3u (x : X_f3u) : TT Tryz.prog R_f3u :=
 (.ret (Sl.mk false 15 (fun i1=>(cond (Nat.beq i1 0) (ByteArray.mk #[99,108,97,105,109]) (cond (Nat.beq i1 1) (ByteArray.mk #[112,117,98,108,105,115,104]) (cond (Nat.beq i1 2) (ByteArray.mk #[116,97,107,101]) (cond (Nat.beq i1 3) (ByteArray.mk #[114,101,108,101,97,115,101]) (cond (Nat.beq i1 4) (ByteArray.mk #[110,111]) (cond (Nat.beq i1 5) (ByteArray.mk #[115,104,117,116]) (cond (Nat.beq i1 6) (ByteArray.mk #[116,105,109,101]) (cond (Nat.beq i1 7) (ByteArray.mk #[99,108,111,99,107]) (cond (Nat.beq i1 8) (ByteArray.mk #[100,114,97,119]) (cond (Nat.beq i1 9) (ByteArray.mk #[114,101,97,100]) (cond (Nat.beq i1 10) (ByteArray.mk #[101,110,100]) (cond (Nat.beq i1 11) (ByteArray.mk #[115,101,101]) (cond (Nat.beq i1 12) (ByteArray.mk #[99,108,111,115,101]) (cond (Nat.beq i1 13) (ByteArray.mk #[104,97,108,116]) (ByteArray.mk #[115,112,105,110]))))))))))))))))))
theorem sd_f3u (x : X_f3u) : (tt_f3u x).AH :=
 TT.sR
def D_f3u : AQ X_f3u R_f3u:=.of tt_f3u
def con_f3u : A3 Tryz.prog :=
 BZ 86 J_f3u S_f3u D_f3u 0 0 [] (lk mxk lbn sd_f3u)
abbrev X_f21 : Type:=Int
abbrev R_f21 : Type:=ByteArray
def J_f21 : A9 Tryz.prog :=
 BF Tryz.prog Tryz.f46 14 [] [] [] [] [.any] [] [con_f3u] R_f21 [] fun y=>[V.str y]
def S_f21 : AM :=
 Ae Tryz.f46 1 0 X_f21 (fun x=>[(V.int .i64) x]) fun l=>(dI (at_ l 0))
structure X_f21_3 where
 HY : Int
def S_f21_3 : AM :=
 Ad Tryz.f46 3 [(0,.any)] [] [] X_f21_3 (fun x=>[(V.int .i64) x.HY]) fun l=>⟨dI (at_ l 0)⟩
def tt_f21_3 (x : X_f21_3) : TT Tryz.prog R_f21 :=
 (.call con_f3u PUnit.unit fun (y1 : R_f3u) =>
 (.need (A0 (IntKind.i64.wrap (x.HY - 1)) y1.n) <|
 (.ret (y1.get (Int.toNat (IntKind.i64.wrap (x.HY - 1)))))))
theorem sd_f21_3 (x : X_f21_3) : (tt_f21_3 x).AH :=
 (TT.sC fun _=>(TT.sN TT.sR))
def D_f21_3 : AQ X_f21_3 R_f21:=.of tt_f21_3
theorem ok_f21_3 : AV J_f21 S_f21_3 D_f21_3 :=
 lk mxk lbn sd_f21_3
def tt_f21 (x : X_f21) : TT Tryz.prog R_f21 :=
 (.ite (BS x 1)
 (.ret (ByteArray.mk #[]))
 (.ite (BS 15 x)
 (.ret (ByteArray.mk #[]))
 (.jump S_f21_3 D_f21_3 (X_f21_3.mk x))))
theorem sd_f21 (x : X_f21) : (tt_f21 x).AH :=
 (TT.sI TT.sR (TT.sI TT.sR TT.sJ))
def D_f21 : AQ X_f21 R_f21:=.of tt_f21
def con_f21 : A3 Tryz.prog :=
 BZ 46 J_f21 S_f21 D_f21 1 0 [.any] (lk mxk (lbc ok_f21_3 rfl lbn) sd_f21)
abbrev X_f2o : Type:=Int
abbrev R_f2o : Type:=Bool
def J_f2o : A9 Tryz.prog :=
 BF Tryz.prog Tryz.f128 13 [] [] [] [] [.any] [] [] R_f2o [] fun y=>[V.bool y]
def S_f2o : AM :=
 Ae Tryz.f128 1 0 X_f2o (fun x=>[(V.int .i64) x]) fun l=>(dI (at_ l 0))
def tt_f2o (x : X_f2o) : TT Tryz.prog R_f2o :=
 (.ite (Bd 1 x)
 (.ite (Bd x 4)
 (.ret true)
 (.ret (AX x 13)))
 (.ret (AX x 13)))
theorem sd_f2o (x : X_f2o) : (tt_f2o x).AH :=
 (TT.sI (TT.sI TT.sR TT.sR) TT.sR)
def D_f2o : AQ X_f2o R_f2o:=.of tt_f2o
def con_f2o : A3 Tryz.prog :=
 BZ 128 J_f2o S_f2o D_f2o 1 0 [.any] (lk mxk lbn sd_f2o)
abbrev X_f2v : Type:=Int
abbrev R_f2v : Type:=Bool
def J_f2v : A9 Tryz.prog :=
 BF Tryz.prog Tryz.f80 13 [] [] [] [] [.any] [] [con_f2o] R_f2v [] fun y=>[V.bool y]
def S_f2v : AM :=
 Ae Tryz.f80 1 0 X_f2v (fun x=>[(V.int .i64) x]) fun l=>(dI (at_ l 0))
def tt_f2v (x : X_f2v) : TT Tryz.prog R_f2v :=
 (.call con_f2o x fun (y1 : R_f2o) =>
 (.ite y1
 (.ret true)
 (.ite (Bd 5 x)
 (.ret (Bd x 7))
 (.ret false))))
theorem sd_f2v (x : X_f2v) : (tt_f2v x).AH :=
 (TT.sC fun _=>(TT.sI TT.sR (TT.sI TT.sR TT.sR)))
def D_f2v : AQ X_f2v R_f2v:=.of tt_f2v
def con_f2v : A3 Tryz.prog :=
 BZ 80 J_f2v S_f2v D_f2v 1 0 [.any] (lk mxk lbn sd_f2v)
abbrev X_f36 : Type:=Int
abbrev R_f36 : Type:=Bool
def J_f36 : A9 Tryz.prog :=
 BF Tryz.prog Tryz.f133 13 [] [] [] [] [.any] [] [] R_f36 [] fun y=>[V.bool y]
def S_f36 : AM :=
 Ae Tryz.f133 1 0 X_f36 (fun x=>[(V.int .i64) x]) fun l=>(dI (at_ l 0))
def tt_f36 (x : X_f36) : TT Tryz.prog R_f36 :=
 (.ite (Bd 8 x)
 (.ite (Bd x 10)
 (.ret true)
 (.ret (AX x 12)))
 (.ret (AX x 12)))
theorem sd_f36 (x : X_f36) : (tt_f36 x).AH :=
 (TT.sI (TT.sI TT.sR TT.sR) TT.sR)
def D_f36 : AQ X_f36 R_f36:=.of tt_f36
def con_f36 : A3 Tryz.prog :=
 BZ 133 J_f36 S_f36 D_f36 1 0 [.any] (lk mxk lbn sd_f36)
def d_TEv (v : V) : TEv :=
 ⟨dI (fd v 0),dI (fd v 1),dI (fd v 2),dI (fd v 3),dI (fd v 4)⟩
def e_TEv (x : TEv) : V :=
 V.cons ((V.int .i64) x.Thread) (V.cons ((V.int .i64) x.Kind) (V.cons ((V.int .i64) x.Ring) (V.cons ((V.int .u64) x.AG) (V.cons ((V.int .u64) x.Value) (V.unit)))))
theorem nu_e_TEv (x : TEv) : (e_TEv x).CV:=⟨trivial,trivial,trivial,trivial,trivial,trivial⟩
abbrev X_f10 : Type:=TEv
abbrev R_f10 : Type:=TEv
def J_f10 : A9 Tryz.prog :=
 BF Tryz.prog Tryz.f131 19 [] [] [] [] [.any] [] [con_f2v,con_f2o,con_f36] R_f10 [] fun y=>[e_TEv y]
def S_f10 : AM :=
 Ae Tryz.f131 1 0 X_f10 (fun x=>[e_TEv x]) fun l=>(d_TEv (at_ l 0))
structure X_f10_3 where
 O5 : TEv
 Fe : TEv
def S_f10_3 : AM :=
 Ad Tryz.f131 3 (an [1,2]) [] [(.loc 1 0,.any),(.loc 2 0,.any)] X_f10_3 (fun x=>[(V.ptr (.loc 1 0) []),(V.ptr (.loc 2 0) []),e_TEv x.O5,e_TEv x.Fe]) fun l=>⟨d_TEv (at_ l 2),d_TEv (at_ l 3)⟩
structure X_f10_5 where
 O5 : TEv
 Fe : TEv
def S_f10_5 : AM :=
 Ad Tryz.f131 5 (an [1,2]) [] [(.loc 1 0,.any),(.loc 2 0,.any)] X_f10_5 (fun x=>[(V.ptr (.loc 1 0) []),(V.ptr (.loc 2 0) []),e_TEv x.O5,e_TEv x.Fe]) fun l=>⟨d_TEv (at_ l 2),d_TEv (at_ l 3)⟩
def tt_f10_5 (x : X_f10_5) : TT Tryz.prog R_f10 :=
 (.call con_f36 x.O5.Kind fun (y1 : R_f36) =>
 (.ite (!y1)
 (.ret (TEv.mk x.O5.Thread x.O5.Kind x.O5.Ring x.O5.AG 0))
 (.ret x.O5)))
theorem sd_f10_5 (x : X_f10_5) : (tt_f10_5 x).AH :=
 (TT.sC fun _=>(TT.sI TT.sR TT.sR))
def D_f10_5 : AQ X_f10_5 R_f10:=.of tt_f10_5
theorem ok_f10_5 : AV J_f10 S_f10_5 D_f10_5 :=
 lk mxk lbn sd_f10_5
def tt_f10_3 (x : X_f10_3) : TT Tryz.prog R_f10 :=
 (.call con_f2o x.O5.Kind fun (y1 : R_f2o) =>
 (.ite (!y1)
 (.jump S_f10_5 D_f10_5 (X_f10_5.mk (TEv.mk x.O5.Thread x.O5.Kind x.O5.Ring 0 x.O5.Value) x.Fe))
 (.jump S_f10_5 D_f10_5 (X_f10_5.mk x.O5 x.Fe))))
theorem sd_f10_3 (x : X_f10_3) : (tt_f10_3 x).AH :=
 (TT.sC fun _=>(TT.sI TT.sJ TT.sJ))
def D_f10_3 : AQ X_f10_3 R_f10:=.of tt_f10_3
theorem ok_f10_3 : AV J_f10 S_f10_3 D_f10_3 :=
 lk mxk (lbc ok_f10_5 rfl lbn) sd_f10_3
def tt_f10 (x : X_f10) : TT Tryz.prog R_f10 :=
 (.call con_f2v x.Kind fun (y1 : R_f2v) =>
 (.ite (!y1)
 (.jump S_f10_3 D_f10_3 (X_f10_3.mk (TEv.mk x.Thread x.Kind 0 x.AG x.Value) (TEv.mk 0 0 0 0 0)))
 (.jump S_f10_3 D_f10_3 (X_f10_3.mk x (TEv.mk 0 0 0 0 0)))))
theorem sd_f10 (x : X_f10) : (tt_f10 x).AH :=
 (TT.sC fun _=>(TT.sI TT.sJ TT.sJ))
def D_f10 : AQ X_f10 R_f10:=.of tt_f10
def con_f10 : A3 Tryz.prog :=
 BZ 131 J_f10 S_f10 D_f10 1 0 [.any] (lk mxk (lbc ok_f10_5 rfl (lbc ok_f10_3 rfl lbn)) sd_f10)
abbrev X_f33 : Type:=TEv
abbrev R_f33 : Type:=Bool
def J_f33 : A9 Tryz.prog :=
 BF Tryz.prog Tryz.f84 38 [(1,3)] [] [] [] [.any] [] [con_f21,con_f10] R_f33 [] fun y=>[V.bool y]
def S_f33 : AM :=
 Ae Tryz.f84 1 0 X_f33 (fun x=>[e_TEv x]) fun l=>(d_TEv (at_ l 0))
def tt_f33 (x : X_f33) : TT Tryz.prog R_f33 :=
 (.call con_f21 x.Kind fun (y1 : R_f21) =>
 (.ite (!(seq y1 (ByteArray.mk #[])))
 (.call con_f10 x fun (y2 : R_f10) =>
 (.ite ((AX x.Thread y2.Thread) && ((AX x.Kind y2.Kind) && ((AX x.Ring y2.Ring) && ((AX x.AG y2.AG) && ((AX x.Value y2.Value) && true)))))
 (.ite (Bd 0 x.Thread)
 (.ite (BS x.Thread 8)
 (.ite (Bd 0 x.Ring)
 (.ite (BS x.Ring 8)
 (.ret (BS x.AG 4611686018427387904))
 (.ret false))
 (.ret false))
 (.ret false))
 (.ret false))
 (.ret false)))
 (.ret false)))
theorem sd_f33 (x : X_f33) : (tt_f33 x).AH :=
 (TT.sC fun _=>(TT.sI (TT.sC fun _=>(TT.sI (TT.sI (TT.sI (TT.sI (TT.sI TT.sR TT.sR) TT.sR) TT.sR) TT.sR) TT.sR)) TT.sR))
def D_f33 : AQ X_f33 R_f33:=.of tt_f33
def con_f33 : A3 Tryz.prog :=
 BZ 84 J_f33 S_f33 D_f33 1 0 [.any] (lk mxk lbn sd_f33)
abbrev Dsl_TTh : Type:=(Sl TTh)
def esl_TTh : Dsl_TTh → V:=(LA none 14 e_TTh)
def dsl_TTh : V → Dsl_TTh:=(LX d_TTh)
def hsl_TTh : Sh:=(.sl none 14 (e_TTh (d_TTh .undef)))
abbrev X_f18 : Type:=Int × TFa
abbrev R_f18 : Type:=Bool
abbrev RR_f18 : Type:=Bool × TFa
abbrev p_f18 (y : RR_f18) : TFa:=y.2
abbrev w_f18 (x : X_f18) : TFa:=x.2
def J_f18 : A9 Tryz.prog :=
 BF Tryz.prog Tryz.f58 20 [] [] [] [.back (.loc 16 0)] [.any] [sh_TFa] [] RR_f18 [] fun y=>[V.bool y.1,e_TFa y.2]
def S_f18 : AM :=
 Ae Tryz.f58 2 1 X_f18 (fun x=>[(V.ptr (.par 0) []),(V.int .i64) x.1,e_TFa x.2]) fun l=>(dI (at_ l 1),d_TFa (at_ l 2))
def tt_f18 (x : X_f18) : TT Tryz.prog RR_f18 :=
 (.ite (Bd 0 x.fst)
 (.need ((true && true) && (Nat.beq x.snd.threads.n x.snd.threads.n)) <|
 (.ret ((BS x.fst ((x.snd.threads.n : Nat) : Int)),x.snd)))
 (.ret (false,x.snd)))
theorem sd_f18 (x : X_f18) : (tt_f18 x).AH :=
 (TT.sI (TT.sN TT.sR) TT.sR)
theorem roT_f18 (x : X_f18) : TT.Ro p_f18 (w_f18 x) (tt_f18 x) :=
 (TT.rI (TT.rN (TT.rR rfl)) (TT.rR rfl))
def D_f18 : AQ X_f18 R_f18:=.ro (.of tt_f18) (fun y=>(y.1)) (fun y x=>(y,x.2)) fun x y h=>congrArg (fun o=>(y.1,o)) (roT_f18 x y h)
def con_f18 : A3 Tryz.prog :=
 C3 58 J_f18 S_f18 (.of tt_f18) D_f18 (fun y x=>(y,x.2)) (fun y=>V.bool y) 2 1 [.any,.any] (lk mxk lbn sd_f18) (fun x=>⟨(nu_e_TFa : ∀ y,(e_TFa y).CV) (x.2),trivial⟩)
abbrev X_f37 : Type:=TIn × (Sl TIn)
abbrev R_f37 : Type:=Bool
def J_f37 : A9 Tryz.prog :=
 BF Tryz.prog Tryz.f197 19 [(2,3)] [] [] [] [.any] [] [con_f3i,con_f3h] R_f37 [] fun y=>[V.bool y]
def S_f37 : AM :=
 Ae Tryz.f197 2 0 X_f37 (fun x=>[e_TIn x.1,(CR esl_TIn) x.2]) fun l=>(d_TIn (at_ l 0),(CS dsl_TIn) (at_ l 1))
def tt_f37 (x : X_f37) : TT Tryz.prog R_f37 :=
 (.call con_f3h x.fst fun (y1 : R_f3h) =>
 (.ite (!y1)
 (.ret true)
 (.call con_f3i x.fst fun (y2 : R_f3i) =>
 (.ite y2
 (.ret (BS (IntKind.u64.wrap ((x.snd.n : Nat) : Int)) x.fst.K))
 (.ret false)))))
theorem sd_f37 (x : X_f37) : (tt_f37 x).AH :=
 (TT.sC fun _=>(TT.sI TT.sR (TT.sC fun _=>(TT.sI TT.sR TT.sR))))
def D_f37 : AQ X_f37 R_f37:=.of tt_f37
def con_f37 : A3 Tryz.prog :=
 BZ 197 J_f37 S_f37 D_f37 2 0 [.any,.any] (lk mxk lbn sd_f37)
abbrev X_f6 : Type:=(Sl TIn) × ((Sl TIn))
abbrev R_f6 : Type:=Int
def J_f6 : A9 Tryz.prog :=
 BF Tryz.prog Tryz.f202 19 [] [] [] [] [.any] [] [con_f37] R_f6 [] fun y=>[(V.int .i64) y]
def S_f6 : AM :=
 Ae Tryz.f202 2 0 X_f6 (fun x=>[esl_TIn x.1,(fun x : ((Sl TIn))=>V.fn 197 (V.cons ((CR esl_TIn) x) (V.unit))) x.2]) fun l=>(dsl_TIn (at_ l 0),(fun v=>((CS dsl_TIn) (fd (fnc v) 0) : ((Sl TIn)))) (at_ l 1))
structure X_f6_2 where
 S2 : (Sl TIn)
 f_1 : ((Sl TIn))
 UM : Int
 QP : Int
def S_f6_2 : AM :=
 Ad Tryz.f202 2 [(0,hsl_TIn),(1,.any),(7,.any),(8,.any)] [] [] X_f6_2 (fun x=>[esl_TIn x.S2,(fun x : ((Sl TIn))=>V.fn 197 (V.cons ((CR esl_TIn) x) (V.unit))) x.f_1,(V.int .i64) x.UM,(V.int .i64) x.QP]) fun l=>⟨dsl_TIn (at_ l 0),(fun v=>((CS dsl_TIn) (fd (fnc v) 0) : ((Sl TIn)))) (at_ l 1),dI (at_ l 2),dI (at_ l 3)⟩
def tt_f6_2 (D_f6_2 : AQ X_f6_2 R_f6) (x : X_f6_2) : TT Tryz.prog R_f6 :=
 (.ite (BS x.QP x.UM)
 (.need (A0 x.QP x.S2.n) <|
 (.call con_f37 ((x.S2.get (Int.toNat x.QP)),x.f_1) fun (y2 : R_f37) =>
 (.ite y2
 (.ret x.QP)
 (.jump S_f6_2 D_f6_2 (X_f6_2.mk x.S2 x.f_1 x.UM (IntKind.i64.wrap (x.QP + 1)))))))
 (.ret (-(1 : Int))))
theorem sd_f6_2 (D_f6_2 : AQ X_f6_2 R_f6) (x : X_f6_2) : (tt_f6_2 D_f6_2 x).AH :=
 (TT.sI (TT.sN (TT.sC fun _=>(TT.sI TT.sR TT.sJ))) TT.sR)
def D_f6_2 : AQ X_f6_2 R_f6:=AQ.loop tt_f6_2
theorem ok_f6_2 : AV J_f6 S_f6_2 D_f6_2 :=
 Az fun D_f6_2 h_2=>lk mxk (lbc h_2 rfl lbn) (sd_f6_2 D_f6_2)
def tt_f6 (x : X_f6) : TT Tryz.prog R_f6 :=
 (.jump S_f6_2 D_f6_2 (X_f6_2.mk x.fst x.snd ((x.fst.n : Nat) : Int) 0))
theorem sd_f6 (x : X_f6) : (tt_f6 x).AH :=
 TT.sJ
def D_f6 : AQ X_f6 R_f6:=.of tt_f6
def con_f6 : A3 Tryz.prog :=
 BZ 202 J_f6 S_f6 D_f6 2 0 [hsl_TIn,.any] (lk mxk (lbc ok_f6_2 rfl lbn) sd_f6)
abbrev X_fm : Type:=(Sl TIn) × ((Sl TIn))
abbrev R_fm : Type:=Bool
def J_fm : A9 Tryz.prog :=
 BF Tryz.prog Tryz.f196 9 [(5,1)] [] [] [] [.any] [] [con_f6] R_fm [] fun y=>[V.bool y]
def S_fm : AM :=
 Ae Tryz.f196 2 0 X_fm (fun x=>[esl_TIn x.1,(fun x : ((Sl TIn))=>V.fn 197 (V.cons ((CR esl_TIn) x) (V.unit))) x.2]) fun l=>(dsl_TIn (at_ l 0),(fun v=>((CS dsl_TIn) (fd (fnc v) 0) : ((Sl TIn)))) (at_ l 1))
def tt_fm (x : X_fm) : TT Tryz.prog R_fm :=
 (.call con_f6 x fun (y1 : R_f6) =>
 (.ret (Bd 0 y1)))
theorem sd_fm (x : X_fm) : (tt_fm x).AH :=
 (TT.sC fun _=>TT.sR)
def D_fm : AQ X_fm R_fm:=.of tt_fm
def con_fm : A3 Tryz.prog :=
 BZ 196 J_fm S_fm D_fm 2 0 [hsl_TIn,.any] (lk mxk lbn sd_fm)
abbrev X_f3o : Type:=(Sl TIn)
abbrev R_f3o : Type:=Bool
def J_f3o : A9 Tryz.prog :=
 BF Tryz.prog Tryz.f177 10 [(1,3)] [] [] [] [.any] [] [con_fm] R_f3o [] fun y=>[V.bool y]
def S_f3o : AM :=
 Ae Tryz.f177 1 0 X_f3o (fun x=>[esl_TIn x]) fun l=>(dsl_TIn (at_ l 0))
def tt_f3o (x : X_f3o) : TT Tryz.prog R_f3o :=
 (.ite (BS 256 ((x.n : Nat) : Int))
 (.ret false)
 (.call con_fm (x,x) fun (y1 : R_fm) =>
 (.ret (!y1))))
theorem sd_f3o (x : X_f3o) : (tt_f3o x).AH :=
 (TT.sI TT.sR (TT.sC fun _=>TT.sR))
def D_f3o : AQ X_f3o R_f3o:=.of tt_f3o
def con_f3o : A3 Tryz.prog :=
 BZ 177 J_f3o S_f3o D_f3o 1 0 [hsl_TIn] (lk mxk lbn sd_f3o)
abbrev X_fv : Type:=(Sl TIn) × TTh
abbrev R_fv : Type:=Bool
def J_fv : A9 Tryz.prog :=
 BF Tryz.prog Tryz.f146 88 [(3,3),(62,1)] [] [] [] [.any] [] [con_f3o] R_fv [] fun y=>[V.bool y]
def S_fv : AM :=
 Ae Tryz.f146 2 0 X_fv (fun x=>[esl_TIn x.1,e_TTh x.2]) fun l=>(dsl_TIn (at_ l 0),d_TTh (at_ l 1))
structure X_fv_3 where
 Bk : (Sl TIn)
 Ds : TTh
def S_fv_3 : AM :=
 Ad Tryz.f146 3 [(0,hsl_TIn),(3,.any)] [] [] X_fv_3 (fun x=>[esl_TIn x.Bk,(CR e_TTh) x.Ds]) fun l=>⟨dsl_TIn (at_ l 0),(CS d_TTh) (at_ l 1)⟩
structure X_fv_7 where
 Bk : (Sl TIn)
 Ds : TTh
def S_fv_7 : AM :=
 Ad Tryz.f146 7 [(0,hsl_TIn),(3,.any)] [] [] X_fv_7 (fun x=>[esl_TIn x.Bk,(CR e_TTh) x.Ds]) fun l=>⟨dsl_TIn (at_ l 0),(CS d_TTh) (at_ l 1)⟩
def tt_fv_7 (x : X_fv_7) : TT Tryz.prog R_fv :=
 (.need (A0 x.Ds.At x.Bk.n) <|
 (.need (A0 (IntKind.i64.wrap (x.Ds.Phase - 1)) 2) <|
 (.ite (AX (x.Bk.get (Int.toNat x.Ds.At)).Op (cond (Nat.beq (Int.toNat (IntKind.i64.wrap (x.Ds.Phase - 1))) 0) (18 : Int) (19 : Int)))
 (.ite (AX (x.Bk.get (Int.toNat x.Ds.At)).C x.Ds.Ring)
 (.ret (BS x.Ds.AG 4611686018427387904))
 (.ret false))
 (.ret false))))
theorem sd_fv_7 (x : X_fv_7) : (tt_fv_7 x).AH :=
 (TT.sN (TT.sN (TT.sI (TT.sI TT.sR TT.sR) TT.sR)))
def D_fv_7 : AQ X_fv_7 R_fv:=.of tt_fv_7
theorem ok_fv_7 : AV J_fv S_fv_7 D_fv_7 :=
 lk mxk lbn sd_fv_7
def tt_fv_3 (x : X_fv_3) : TT Tryz.prog R_fv :=
 (.ite (AX x.Ds.Phase 0)
 (.ite (AX x.Ds.Ring 0)
 (.ret (AX x.Ds.AG 0))
 (.ret false))
 (.ite (!(AX x.Ds.Status 0))
 (.ret false)
 (.ite (AX x.Ds.At ((x.Bk.n : Nat) : Int))
 (.ret false)
 (.jump S_fv_7 D_fv_7 (X_fv_7.mk x.Bk x.Ds)))))
theorem sd_fv_3 (x : X_fv_3) : (tt_fv_3 x).AH :=
 (TT.sI (TT.sI TT.sR TT.sR) (TT.sI TT.sR (TT.sI TT.sR TT.sJ)))
def D_fv_3 : AQ X_fv_3 R_fv:=.of tt_fv_3
theorem ok_fv_3 : AV J_fv S_fv_3 D_fv_3 :=
 lk mxk (lbc ok_fv_7 rfl lbn) sd_fv_3
def tt_fv (x : X_fv) : TT Tryz.prog R_fv :=
 (.call con_f3o x.fst fun (y1 : R_f3o) =>
 (.ite (!y1)
 (.ret false)
 (.ite (BS x.snd.At 0)
 (.ret false)
 (.ite (BS ((x.fst.n : Nat) : Int) x.snd.At)
 (.ret false)
 (.ite (BS x.snd.Status 0)
 (.ret false)
 (.ite (BS 2 x.snd.Status)
 (.ret false)
 (.ite (BS x.snd.Phase 0)
 (.ret false)
 (.ite (BS 2 x.snd.Phase)
 (.ret false)
 (.jump S_fv_3 D_fv_3 (X_fv_3.mk x.fst x.snd))))))))))
theorem sd_fv (x : X_fv) : (tt_fv x).AH :=
 (TT.sC fun _=>(TT.sI TT.sR (TT.sI TT.sR (TT.sI TT.sR (TT.sI TT.sR (TT.sI TT.sR (TT.sI TT.sR (TT.sI TT.sR TT.sJ))))))))
def D_fv : AQ X_fv R_fv:=.of tt_fv
def con_fv : A3 Tryz.prog :=
 BZ 146 J_fv S_fv D_fv 2 0 [hsl_TIn,sh_TTh] (lk mxk (lbc ok_fv_7 rfl (lbc ok_fv_3 rfl lbn)) sd_fv)
abbrev X_f40 : Type:=Int
abbrev R_f40 : Type:=Bool
def J_f40 : A9 Tryz.prog :=
 BF Tryz.prog Tryz.f178 9 [] [] [] [] [.any] [] [] R_f40 [] fun y=>[V.bool y]
def S_f40 : AM :=
 Ae Tryz.f178 1 0 X_f40 (fun x=>[(V.int .i64) x]) fun l=>(dI (at_ l 0))
def tt_f40 (x : X_f40) : TT Tryz.prog R_f40 :=
 (.ite (Bd 18 x)
 (.ret (Bd x 25))
 (.ret false))
theorem sd_f40 (x : X_f40) : (tt_f40 x).AH :=
 (TT.sI TT.sR TT.sR)
def D_f40 : AQ X_f40 R_f40:=.of tt_f40
def con_f40 : A3 Tryz.prog :=
 BZ 178 J_f40 S_f40 D_f40 1 0 [.any] (lk mxk lbn sd_f40)
abbrev X_f3c : Type:=Int × Int
abbrev R_f3c : Type:=Int
def J_f3c : A9 Tryz.prog :=
 BF Tryz.prog Tryz.f203 10 [] [] [] [] [.any] [] [] R_f3c [] fun y=>[(V.int .u64) y]
def S_f3c : AM :=
 Ae Tryz.f203 2 0 X_f3c (fun x=>[(V.int .u64) x.1,(V.int .u64) x.2]) fun l=>(dI (at_ l 0),dI (at_ l 1))
def tt_f3c (x : X_f3c) : TT Tryz.prog R_f3c :=
 (.ite (AX x.snd 0)
 (.ret 0)
 (.need (!(AX x.snd 0)) <|
 (.ret (IntKind.u64.wrap (Int.tdiv x.fst x.snd)))))
theorem sd_f3c (x : X_f3c) : (tt_f3c x).AH :=
 (TT.sI TT.sR (TT.sN TT.sR))
def D_f3c : AQ X_f3c R_f3c:=.of tt_f3c
def con_f3c : A3 Tryz.prog :=
 BZ 203 J_f3c S_f3c D_f3c 2 0 [.any,.any] (lk mxk lbn sd_f3c)
abbrev X_f47 : Type:=Int × Int
abbrev R_f47 : Type:=Int
def J_f47 : A9 Tryz.prog :=
 BF Tryz.prog Tryz.f204 10 [] [] [] [] [.any] [] [] R_f47 [] fun y=>[(V.int .u64) y]
def S_f47 : AM :=
 Ae Tryz.f204 2 0 X_f47 (fun x=>[(V.int .u64) x.1,(V.int .u64) x.2]) fun l=>(dI (at_ l 0),dI (at_ l 1))
def tt_f47 (x : X_f47) : TT Tryz.prog R_f47 :=
 (.ite (AX x.snd 0)
 (.ret 0)
 (.need (!(AX x.snd 0)) <|
 (.ret (Int.tmod x.fst x.snd))))
theorem sd_f47 (x : X_f47) : (tt_f47 x).AH :=
 (TT.sI TT.sR (TT.sN TT.sR))
def D_f47 : AQ X_f47 R_f47:=.of tt_f47
def con_f47 : A3 Tryz.prog :=
 BZ 204 J_f47 S_f47 D_f47 2 0 [.any,.any] (lk mxk lbn sd_f47)
abbrev X_f4f : Type:=Bool
abbrev R_f4f : Type:=Int
def J_f4f : A9 Tryz.prog :=
 BF Tryz.prog Tryz.f205 4 [] [] [] [] [.any] [] [] R_f4f [] fun y=>[(V.int .u64) y]
def S_f4f : AM :=
 Ae Tryz.f205 1 0 X_f4f (fun x=>[V.bool x]) fun l=>(dB (at_ l 0))
def tt_f4f (x : X_f4f) : TT Tryz.prog R_f4f :=
 (.ite x
 (.ret 1)
 (.ret 0))
theorem sd_f4f (x : X_f4f) : (tt_f4f x).AH :=
 (TT.sI TT.sR TT.sR)
def D_f4f : AQ X_f4f R_f4f:=.of tt_f4f
def con_f4f : A3 Tryz.prog :=
 BZ 205 J_f4f S_f4f D_f4f 1 0 [.any] (lk mxk lbn sd_f4f)
abbrev X_f4h : Type:=Int × Int × Int
abbrev R_f4h : Type:=Int × Bool
def J_f4h : A9 Tryz.prog :=
 BF Tryz.prog Tryz.f198 73 [] [] [] [] [.any,.any] [] [con_f4f,con_f3c,con_f47] R_f4h [] fun y=>[V.CC (V.cons ((V.int .u64) y.1) (V.cons (V.bool y.2) (V.unit)))]
def S_f4h : AM :=
 Ae Tryz.f198 3 0 X_f4h (fun x=>[(V.int .i64) x.1,(V.int .u64) x.2.1,(V.int .u64) x.2.2]) fun l=>(dI (at_ l 0),dI (at_ l 1),dI (at_ l 2))
def tt_f4h (x : X_f4h) : TT Tryz.prog R_f4h :=
 (.ite (AX x.fst 3)
 (.ret ((IntKind.u64.wrap (x.snd.fst + x.snd.snd)),true))
 (.ite (AX x.fst 4)
 (.ret ((IntKind.u64.wrap (x.snd.fst - x.snd.snd)),true))
 (.ite (AX x.fst 5)
 (.ret ((IntKind.u64.wrap (x.snd.fst * x.snd.snd)),true))
 (.ite (AX x.fst 6)
 (.call con_f3c x.snd fun (y1 : R_f3c) =>
 (.ret (y1,true)))
 (.ite (AX x.fst 7)
 (.call con_f47 x.snd fun (y1 : R_f47) =>
 (.ret (y1,true)))
 (.ite (AX x.fst 8)
 (.ret ((Vm.bits .and IntKind.u64 x.snd.fst x.snd.snd),true))
 (.ite (AX x.fst 9)
 (.ret ((Vm.bits .or IntKind.u64 x.snd.fst x.snd.snd),true))
 (.ite (AX x.fst 10)
 (.ret ((Vm.bits .xor IntKind.u64 x.snd.fst x.snd.snd),true))
 (.ite (AX x.fst 11)
 (.ret ((shl IntKind.u64 x.snd.fst (Vm.bits .and IntKind.u64 x.snd.snd 63)),true))
 (.ite (AX x.fst 12)
 (.ret ((shr IntKind.u64 x.snd.fst (Vm.bits .and IntKind.u64 x.snd.snd 63)),true))
 (.ite (AX x.fst 13)
 (.call con_f4f (BS x.snd.fst x.snd.snd) fun (y1 : R_f4f) =>
 (.ret (y1,true)))
 (.ite (AX x.fst 14)
 (.call con_f4f (AX x.snd.fst x.snd.snd) fun (y1 : R_f4f) =>
 (.ret (y1,true)))
 (.ret (0,false))))))))))))))
theorem sd_f4h (x : X_f4h) : (tt_f4h x).AH :=
 (TT.sI TT.sR (TT.sI TT.sR (TT.sI TT.sR (TT.sI (TT.sC fun _=>TT.sR) (TT.sI (TT.sC fun _=>TT.sR) (TT.sI TT.sR (TT.sI TT.sR (TT.sI TT.sR (TT.sI TT.sR (TT.sI TT.sR (TT.sI (TT.sC fun _=>TT.sR) (TT.sI (TT.sC fun _=>TT.sR) TT.sR))))))))))))
def D_f4h : AQ X_f4h R_f4h:=.of tt_f4h
def con_f4h : A3 Tryz.prog :=
 BZ 198 J_f4h S_f4h D_f4h 3 0 [.any,.any,.any] (lk mxk lbn sd_f4h)
abbrev OU : Type:=(Sl Int)
def OA : OU → V:=(LA (some 41) 1 (V.int .u64))
def U5 : V → OU:=(LX dI)
def Ny : Sh:=(.sl (some 41) 1 (V.int .u64 0))
def e_TTh_6 (x : TTh) : V :=
 V.cons ((V.int .i64) x.At) (V.cons ((V.int .i64) x.Phase) (V.cons ((V.int .i64) x.Ring) (V.cons ((V.int .i64) x.Status) (V.cons ((V.int .u64) x.AG) (V.cons ((Sa 1 8 (V.int .u64)) x.Af) (V.cons (OA x.Seen) (V.unit)))))))
theorem nu_e_TTh_6 (x : TTh) : (e_TTh_6 x).CV:=⟨trivial,trivial,trivial,trivial,trivial,(fun _ _=>trivial : ∀ y,((Sa 1 8 (V.int .u64)) y).CV) x.Af,trivial,trivial⟩
def sh_TTh_6 : Sh:=(.cons .any (.cons .any (.cons .any (.cons .any (.cons .any (.cons .any (.cons Ny .any)))))))
abbrev X_f38 : Type:=TIn × TTh
abbrev R_f38 : Type:=TTh
def J_f38 : A9 Tryz.prog :=
 BF Tryz.prog Tryz.f179 90 [(2,3),(17,1)] [] [] [] [] [sh_TTh_6] [con_f4h] R_f38 [] fun y=>[V.CC (V.unit),e_TTh_6 y]
def S_f38 : AM :=
 Ae Tryz.f179 2 1 X_f38 (fun x=>[e_TIn x.1,(V.ptr (.par 0) []),e_TTh_6 x.2]) fun l=>(d_TIn (at_ l 0),d_TTh (at_ l 2))
def tt_f38 (x : X_f38) : TT Tryz.prog R_f38 :=
 (.ite (AX x.fst.Op 1)
 (.need (A0 x.fst.A 8) <|
 (.ret (TTh.mk (IntKind.i64.wrap (x.snd.At + 1)) x.snd.Phase x.snd.Ring x.snd.Status x.snd.AG (fun i1=>(cond (Nat.beq i1 (Int.toNat x.fst.A)) x.fst.K (x.snd.Af i1))) x.snd.Seen)))
 (.ite (AX x.fst.Op 2)
 (.need (A0 x.fst.B 8) <|
 (.need (A0 x.fst.A 8) <|
 (.ret (TTh.mk (IntKind.i64.wrap (x.snd.At + 1)) x.snd.Phase x.snd.Ring x.snd.Status x.snd.AG (fun i1=>(cond (Nat.beq i1 (Int.toNat x.fst.A)) (x.snd.Af (Int.toNat x.fst.B)) (x.snd.Af i1))) x.snd.Seen))))
 (.ite (AX x.fst.Op 15)
 (.ret (TTh.mk (IntKind.i64.wrap x.fst.K) x.snd.Phase x.snd.Ring x.snd.Status x.snd.AG x.snd.Af x.snd.Seen))
 (.ite (AX x.fst.Op 16)
 (.need (A0 x.fst.A 8) <|
 (.ite ((AX (x.snd.Af (Int.toNat x.fst.A)) 0) == (AX x.fst.Op 16))
 (.ret (TTh.mk (IntKind.i64.wrap x.fst.K) x.snd.Phase x.snd.Ring x.snd.Status x.snd.AG x.snd.Af x.snd.Seen))
 (.ret (TTh.mk (IntKind.i64.wrap (x.snd.At + 1)) x.snd.Phase x.snd.Ring x.snd.Status x.snd.AG x.snd.Af x.snd.Seen))))
 (.ite (AX x.fst.Op 17)
 (.need (A0 x.fst.A 8) <|
 (.ite ((AX (x.snd.Af (Int.toNat x.fst.A)) 0) == (AX x.fst.Op 16))
 (.ret (TTh.mk (IntKind.i64.wrap x.fst.K) x.snd.Phase x.snd.Ring x.snd.Status x.snd.AG x.snd.Af x.snd.Seen))
 (.ret (TTh.mk (IntKind.i64.wrap (x.snd.At + 1)) x.snd.Phase x.snd.Ring x.snd.Status x.snd.AG x.snd.Af x.snd.Seen))))
 (.need (A0 x.fst.B 8) <|
 (.need (A0 x.fst.C 8) <|
 (.call con_f4h (x.fst.Op,((x.snd.Af (Int.toNat x.fst.B)),(x.snd.Af (Int.toNat x.fst.C)))) fun (y1 : R_f4h) =>
 (.need (A0 x.fst.A 8) <|
 (.ret (TTh.mk (IntKind.i64.wrap (x.snd.At + 1)) x.snd.Phase x.snd.Ring x.snd.Status x.snd.AG (fun i2=>(cond (Nat.beq i2 (Int.toNat x.fst.A)) y1.fst (x.snd.Af i2))) x.snd.Seen)))))))))))
theorem sd_f38 (x : X_f38) : (tt_f38 x).AH :=
 (TT.sI (TT.sN TT.sR) (TT.sI (TT.sN (TT.sN TT.sR)) (TT.sI TT.sR (TT.sI (TT.sN (TT.sI TT.sR TT.sR)) (TT.sI (TT.sN (TT.sI TT.sR TT.sR)) (TT.sN (TT.sN (TT.sC fun _=>(TT.sN TT.sR)))))))))
def D_f38 : AQ X_f38 R_f38:=.of tt_f38
def con_f38 : A3 Tryz.prog :=
 BZ 179 J_f38 S_f38 D_f38 2 1 [.any,.any] (lk mxk lbn sd_f38)
structure TAk where
 Kind : Int
 Ring : Int
 Mode : Int
 Reader : Int
 AG : Int
 Value : Int
def d_TAk (v : V) : TAk :=
 ⟨dI (fd v 0),dI (fd v 1),dI (fd v 2),dI (fd v 3),dI (fd v 4),dI (fd v 5)⟩
def e_TAk (x : TAk) : V :=
 V.cons ((V.int .i64) x.Kind) (V.cons ((V.int .i64) x.Ring) (V.cons ((V.int .i64) x.Mode) (V.cons ((V.int .i64) x.Reader) (V.cons ((V.int .u64) x.AG) (V.cons ((V.int .u64) x.Value) (V.unit))))))
theorem nu_e_TAk (x : TAk) : (e_TAk x).CV:=⟨trivial,trivial,trivial,trivial,trivial,trivial,trivial⟩
abbrev X_f3p : Type:=TIn × TTh
abbrev R_f3p : Type:=TAk
def J_f3p : A9 Tryz.prog :=
 BF Tryz.prog Tryz.f181 52 [(2,3),(3,3)] [] [] [] [.any] [] [] R_f3p [] fun y=>[e_TAk y]
def S_f3p : AM :=
 Ae Tryz.f181 2 0 X_f3p (fun x=>[e_TIn x.1,e_TTh x.2]) fun l=>(d_TIn (at_ l 0),d_TTh (at_ l 1))
def tt_f3p (x : X_f3p) : TT Tryz.prog R_f3p :=
 (.ite (AX x.fst.Op 18)
 (.need (A0 x.fst.A 8) <|
 (.ret (TAk.mk 1 x.fst.C x.fst.D 0 0 (x.snd.Af (Int.toNat x.fst.A)))))
 (.ite (AX x.fst.Op 19)
 (.ret (TAk.mk 2 x.fst.C x.fst.D (IntKind.i64.wrap x.fst.K) 0 0))
 (.ite (AX x.fst.Op 20)
 (.ret (TAk.mk 3 x.fst.C 0 0 0 0))
 (.ite (AX x.fst.Op 21)
 (.ret (TAk.mk 4 0 0 0 0 0))
 (.ite (AX x.fst.Op 22)
 (.ret (TAk.mk 5 0 0 0 0 0))
 (.ite (AX x.fst.Op 23)
 (.ret (TAk.mk 6 0 0 0 0 0))
 (.ite (AX x.fst.Op 24)
 (.need (A0 x.fst.A 8) <|
 (.ret (TAk.mk 7 0 0 0 0 (x.snd.Af (Int.toNat x.fst.A)))))
 (.ret (TAk.mk 8 0 0 0 0 0)))))))))
theorem sd_f3p (x : X_f3p) : (tt_f3p x).AH :=
 (TT.sI (TT.sN TT.sR) (TT.sI TT.sR (TT.sI TT.sR (TT.sI TT.sR (TT.sI TT.sR (TT.sI TT.sR (TT.sI (TT.sN TT.sR) TT.sR)))))))
def D_f3p : AQ X_f3p R_f3p:=.of tt_f3p
def con_f3p : A3 Tryz.prog :=
 BZ 181 J_f3p S_f3p D_f3p 2 0 [.any,sh_TTh] (lk mxk lbn sd_f3p)
abbrev X_f9 : Type:=(Sl TIn) × TTh
abbrev R_f9 : Type:=TTh × TAk
def J_f9 : A9 Tryz.prog :=
 BF Tryz.prog Tryz.f147 97 [(10,1),(16,1),(21,1),(35,1),(40,1),(77,1),(87,1),(89,1),(90,1)] [] [] [] [sh_TTh_6,.any] [] [con_f3g,con_f40,con_f3p,con_f38] R_f9 [] fun y=>[V.CC (V.cons (e_TTh_6 y.1) (V.cons (e_TAk y.2) (V.unit)))]
def S_f9 : AM :=
 Ae Tryz.f147 2 0 X_f9 (fun x=>[esl_TIn x.1,e_TTh_6 x.2]) fun l=>(dsl_TIn (at_ l 0),d_TTh (at_ l 1))
structure X_f9_8 where
 Bk : (Sl TIn)
 KN : Int
 BG : TTh
 Bt : TTh
 BA : TAk
def S_f9_8 : AM :=
 Ad Tryz.f147 8 [(0,hsl_TIn),(3,.any),(4,.any),(5,.any),(48,.any)] [] [(.loc 3 0,sh_TTh_6),(.loc 4 0,sh_TTh_6),(.loc 5 0,.any)] X_f9_8 (fun x=>[esl_TIn x.Bk,(V.ptr (.loc 3 0) []),(V.ptr (.loc 4 0) []),(V.ptr (.loc 5 0) []),(V.int .i64) x.KN,e_TTh_6 x.BG,e_TTh_6 x.Bt,e_TAk x.BA]) fun l=>⟨dsl_TIn (at_ l 0),dI (at_ l 4),d_TTh (at_ l 5),d_TTh (at_ l 6),d_TAk (at_ l 7)⟩
structure X_f9_10 where
 Bk : (Sl TIn)
 KN : Int
 BG : TTh
 Bt : TTh
 BA : TAk
def S_f9_10 : AM :=
 Ad Tryz.f147 10 [(0,hsl_TIn),(3,.any),(4,.any),(5,.any),(48,.any)] [] [(.loc 3 0,sh_TTh_6),(.loc 4 0,sh_TTh_6),(.loc 5 0,.any)] X_f9_10 (fun x=>[esl_TIn x.Bk,(V.ptr (.loc 3 0) []),(V.ptr (.loc 4 0) []),(V.ptr (.loc 5 0) []),(V.int .i64) x.KN,e_TTh_6 x.BG,e_TTh_6 x.Bt,e_TAk x.BA]) fun l=>⟨dsl_TIn (at_ l 0),dI (at_ l 4),d_TTh (at_ l 5),d_TTh (at_ l 6),d_TAk (at_ l 7)⟩
structure X_f9_11 where
 Bk : (Sl TIn)
 KN : Int
 BG : TTh
 Bt : TTh
 BA : TAk
def S_f9_11 : AM :=
 Ad Tryz.f147 11 [(0,hsl_TIn),(3,.any),(4,.any),(5,.any),(48,.any)] [] [(.loc 3 0,sh_TTh_6),(.loc 4 0,sh_TTh_6),(.loc 5 0,.any)] X_f9_11 (fun x=>[esl_TIn x.Bk,(V.ptr (.loc 3 0) []),(V.ptr (.loc 4 0) []),(V.ptr (.loc 5 0) []),(V.int .i64) x.KN,e_TTh_6 x.BG,e_TTh_6 x.Bt,e_TAk x.BA]) fun l=>⟨dsl_TIn (at_ l 0),dI (at_ l 4),d_TTh (at_ l 5),d_TTh (at_ l 6),d_TAk (at_ l 7)⟩
structure X_f9_12 where
 Bk : (Sl TIn)
 BG : TTh
 Bt : TTh
 BA : TAk
def S_f9_12 : AM :=
 Ad Tryz.f147 12 [(0,hsl_TIn),(3,.any),(4,.any),(5,.any)] [] [(.loc 3 0,sh_TTh_6),(.loc 4 0,sh_TTh_6),(.loc 5 0,.any)] X_f9_12 (fun x=>[esl_TIn x.Bk,(V.ptr (.loc 3 0) []),(V.ptr (.loc 4 0) []),(V.ptr (.loc 5 0) []),e_TTh_6 x.BG,e_TTh_6 x.Bt,e_TAk x.BA]) fun l=>⟨dsl_TIn (at_ l 0),d_TTh (at_ l 4),d_TTh (at_ l 5),d_TAk (at_ l 6)⟩
def tt_f9_12 (x : X_f9_12) : TT Tryz.prog R_f9 :=
 (.ite (AX x.BG.At ((x.Bk.n : Nat) : Int))
 (.ret (x.BG,(TAk.mk 8 0 0 0 0 0)))
 (.need (A0 x.BG.At x.Bk.n) <|
 (.call con_f3g (x.Bk.get (Int.toNat x.BG.At)).Op fun (y1 : R_f3g) =>
 (.ite y1
 (.ret (x.BG,(TAk.mk 9 0 0 0 0 0)))
 (.need (A0 x.BG.At x.Bk.n) <|
 (.call con_f3p ((x.Bk.get (Int.toNat x.BG.At)),x.BG) fun (y2 : R_f3p) =>
 (.ret (x.BG,y2))))))))
theorem sd_f9_12 (x : X_f9_12) : (tt_f9_12 x).AH :=
 (TT.sI TT.sR (TT.sN (TT.sC fun _=>(TT.sI TT.sR (TT.sN (TT.sC fun _=>TT.sR))))))
def D_f9_12 : AQ X_f9_12 R_f9:=.of tt_f9_12
theorem ok_f9_12 : AV J_f9 S_f9_12 D_f9_12 :=
 lk mxk lbn sd_f9_12
def tt_f9_11 (D_f9_8 : AQ X_f9_8 R_f9) (x : X_f9_11) : TT Tryz.prog R_f9 :=
 (.jump S_f9_8 D_f9_8 (X_f9_8.mk x.Bk (IntKind.i64.wrap (x.KN + 1)) x.BG x.Bt x.BA))
theorem sd_f9_11 (D_f9_8 : AQ X_f9_8 R_f9) (x : X_f9_11) : (tt_f9_11 D_f9_8 x).AH :=
 TT.sJ
def D_f9_11 (D_f9_8 : AQ X_f9_8 R_f9) : AQ X_f9_11 R_f9:=.of (tt_f9_11 D_f9_8)
theorem ok_f9_11 (D_f9_8 : AQ X_f9_8 R_f9) (h_8 : AV J_f9 S_f9_8 D_f9_8) : AV J_f9 S_f9_11 (D_f9_11 D_f9_8) :=
 lk mxk (lbc h_8 rfl (lbc ok_f9_12 rfl lbn)) (sd_f9_11 D_f9_8)
def tt_f9_10 (D_f9_8 : AQ X_f9_8 R_f9) (x : X_f9_10) : TT Tryz.prog R_f9 :=
 (.need (A0 x.BG.At x.Bk.n) <|
 (.call con_f38 ((x.Bk.get (Int.toNat x.BG.At)),x.BG) fun (y2 : R_f38) =>
 (.jump S_f9_11 (D_f9_11 D_f9_8) (X_f9_11.mk x.Bk x.KN y2 x.Bt x.BA))))
theorem sd_f9_10 (D_f9_8 : AQ X_f9_8 R_f9) (x : X_f9_10) : (tt_f9_10 D_f9_8 x).AH :=
 (TT.sN (TT.sC fun _=>TT.sJ))
def D_f9_10 (D_f9_8 : AQ X_f9_8 R_f9) : AQ X_f9_10 R_f9:=.of (tt_f9_10 D_f9_8)
theorem ok_f9_10 (D_f9_8 : AQ X_f9_8 R_f9) (h_8 : AV J_f9 S_f9_8 D_f9_8) : AV J_f9 S_f9_10 (D_f9_10 D_f9_8) :=
 lk mxk (lbc h_8 rfl (lbc ok_f9_12 rfl (lbc (ok_f9_11 D_f9_8 h_8) rfl lbn))) (sd_f9_10 D_f9_8)
def tt_f9_8 (D_f9_8 : AQ X_f9_8 R_f9) (x : X_f9_8) : TT Tryz.prog R_f9 :=
 (.ite (BS x.KN 256)
 (.ite (AX x.BG.At ((x.Bk.n : Nat) : Int))
 (.jump S_f9_12 D_f9_12 (X_f9_12.mk x.Bk x.BG x.Bt x.BA))
 (.need (A0 x.BG.At x.Bk.n) <|
 (.call con_f40 (x.Bk.get (Int.toNat x.BG.At)).Op fun (y2 : R_f40) =>
 (.ite y2
 (.jump S_f9_12 D_f9_12 (X_f9_12.mk x.Bk x.BG x.Bt x.BA))
 (.jump S_f9_10 (D_f9_10 D_f9_8) (X_f9_10.mk x.Bk x.KN x.BG x.Bt x.BA))))))
 (.jump S_f9_12 D_f9_12 (X_f9_12.mk x.Bk x.BG x.Bt x.BA)))
theorem sd_f9_8 (D_f9_8 : AQ X_f9_8 R_f9) (x : X_f9_8) : (tt_f9_8 D_f9_8 x).AH :=
 (TT.sI (TT.sI TT.sJ (TT.sN (TT.sC fun _=>(TT.sI TT.sJ TT.sJ)))) TT.sJ)
def D_f9_8 : AQ X_f9_8 R_f9:=AQ.loop tt_f9_8
theorem ok_f9_8 : AV J_f9 S_f9_8 D_f9_8 :=
 Az fun D_f9_8 h_8=>lk mxk (lbc h_8 rfl (lbc ok_f9_12 rfl (lbc (ok_f9_11 D_f9_8 h_8) rfl (lbc (ok_f9_10 D_f9_8 h_8) rfl lbn)))) (sd_f9_8 D_f9_8)
def tt_f9 (x : X_f9) : TT Tryz.prog R_f9 :=
 (.ite (!(AX x.snd.Status 0))
 (.ret (x.snd,(TAk.mk 0 0 0 0 0 0)))
 (.ite (AX x.snd.Phase 1)
 (.need (A0 x.snd.At x.fst.n) <|
 (.need (A0 (x.fst.get (Int.toNat x.snd.At)).A 8) <|
 (.ret (x.snd,(TAk.mk 10 x.snd.Ring 0 0 x.snd.AG (x.snd.Af (Int.toNat (x.fst.get (Int.toNat x.snd.At)).A)))))))
 (.ite (AX x.snd.Phase 2)
 (.need (A0 x.snd.At x.fst.n) <|
 (.ret (x.snd,(TAk.mk 11 x.snd.Ring 0 (IntKind.i64.wrap (x.fst.get (Int.toNat x.snd.At)).K) x.snd.AG 0))))
 (.jump S_f9_8 D_f9_8 (X_f9_8.mk x.fst 0 x.snd (TTh.mk 0 0 0 0 0 (fun i1=>(0 : Int)) (Sl.mk true 0 (fun i1=>(0 : Int)))) (TAk.mk 0 0 0 0 0 0))))))
theorem sd_f9 (x : X_f9) : (tt_f9 x).AH :=
 (TT.sI TT.sR (TT.sI (TT.sN (TT.sN TT.sR)) (TT.sI (TT.sN TT.sR) TT.sJ)))
def D_f9 : AQ X_f9 R_f9:=.of tt_f9
def con_f9 : A3 Tryz.prog :=
 BZ 147 J_f9 S_f9 D_f9 2 0 [hsl_TIn,sh_TTh_6] (lk mxk (lbc ok_f9_12 rfl (lbc ok_f9_8 rfl lbn)) sd_f9)
abbrev X_f1z : Type:=(Sl Int)
abbrev R_f1z : Type:=(Sl Int)
def J_f1z : A9 Tryz.prog :=
 BF Tryz.prog Tryz.f113 8 [(6,1)] [] [] [.shut 2] [Ny] [] [] R_f1z [] fun y=>[OA y]
def S_f1z : AM :=
 Ae Tryz.f113 1 0 X_f1z (fun x=>[EU x]) fun l=>(FO (at_ l 0))
def tt_f1z (x : X_f1z) : TT Tryz.prog R_f1z :=
 (.ite x.nil
 (.ret (Sl.mk true 0 (fun i1=>(0 : Int))))
 (.need (true && (room ((0 : Nat) + x.n) 8)) <|
 (.ret (Sl.mk (cond (Nat.beq x.n 0) false false) ((0 : Nat) + x.n) (fun i1=>(cond (Nat.blt i1 0) (0 : Int) (x.get (i1 - 0))))))))
theorem sd_f1z (x : X_f1z) : (tt_f1z x).AH :=
 (TT.sI TT.sR (TT.sN TT.sR))
def D_f1z : AQ X_f1z R_f1z:=.of tt_f1z
def con_f1z : A3 Tryz.prog :=
 BZ 113 J_f1z S_f1z D_f1z 1 0 [Ep] (lk mxk lbn sd_f1z)
abbrev X_f39 : Type:=(Sl TIn) × TTh
abbrev R_f39 : Type:=TTh × TAk × Int
def J_f39 : A9 Tryz.prog :=
 BF Tryz.prog Tryz.f104 26 [(18,1),(19,1),(20,1),(24,1)] [] [] [] [sh_TTh_6,.any,.any] [] [con_f1z,con_fv,con_f9] R_f39 [] fun y=>[V.CC (V.cons (e_TTh_6 y.1) (V.cons (e_TAk y.2.1) (V.cons ((V.int .i64) y.2.2) (V.unit))))]
def S_f39 : AM :=
 Ae Tryz.f104 2 0 X_f39 (fun x=>[esl_TIn x.1,e_TTh x.2]) fun l=>(dsl_TIn (at_ l 0),d_TTh (at_ l 1))
def tt_f39 (x : X_f39) : TT Tryz.prog R_f39 :=
 (.call con_fv x fun (y1 : R_fv) =>
 (.ite (!y1)
 (.ret ((TTh.mk 0 0 0 0 0 (fun i2=>(0 : Int)) (Sl.mk true 0 (fun i2=>(0 : Int)))),((TAk.mk 0 0 0 0 0 0),1)))
 (.call con_f1z x.snd.Seen fun (y2 : R_f1z) =>
 (.call con_f9 (x.fst,(TTh.mk x.snd.At x.snd.Phase x.snd.Ring x.snd.Status x.snd.AG x.snd.Af y2)) fun (y3 : R_f9) =>
 (.ret (y3.fst,(y3.snd,0)))))))
theorem sd_f39 (x : X_f39) : (tt_f39 x).AH :=
 (TT.sC fun _=>(TT.sI TT.sR (TT.sC fun _=>(TT.sC fun _=>TT.sR))))
def D_f39 : AQ X_f39 R_f39:=.of tt_f39
def con_f39 : A3 Tryz.prog :=
 BZ 104 J_f39 S_f39 D_f39 2 0 [hsl_TIn,sh_TTh] (lk mxk lbn sd_f39)
abbrev X_f2w : Type:=Int
abbrev R_f2w : Type:=Int
def J_f2w : A9 Tryz.prog :=
 BF Tryz.prog Tryz.f173 25 [] [] [] [] [.any] [] [] R_f2w [] fun y=>[(V.int .i64) y]
def S_f2w : AM :=
 Ae Tryz.f173 1 0 X_f2w (fun x=>[(V.int .i64) x]) fun l=>(dI (at_ l 0))
def tt_f2w (x : X_f2w) : TT Tryz.prog R_f2w :=
 (.ite (AX x 1)
 (.ret 1)
 (.ite (AX x 2)
 (.ret 10)
 (.ite (AX x 3)
 (.ret 2)
 (.ite (AX x 4)
 (.ret 11)
 (.ite (AX x 8)
 (.ret 4)
 (.ite (AX x 9)
 (.ret 5)
 (.ite (AX x 10)
 (.ret 6)
 (.ite (AX x 11)
 (.ret 6)
 (.ite (AX x 12)
 (.ret 7)
 (.ite (AX x 13)
 (.ret 3)
 (.ite (AX x 14)
 (.ret 8)
 (.ret 9))))))))))))
theorem sd_f2w (x : X_f2w) : (tt_f2w x).AH :=
 (TT.sI TT.sR (TT.sI TT.sR (TT.sI TT.sR (TT.sI TT.sR (TT.sI TT.sR (TT.sI TT.sR (TT.sI TT.sR (TT.sI TT.sR (TT.sI TT.sR (TT.sI TT.sR (TT.sI TT.sR TT.sR)))))))))))
def D_f2w : AQ X_f2w R_f2w:=.of tt_f2w
def con_f2w : A3 Tryz.prog :=
 BZ 173 J_f2w S_f2w D_f2w 1 0 [.any] (lk mxk lbn sd_f2w)
abbrev X_fj : Type:=TAk × TEv
abbrev R_fj : Type:=Bool
def J_fj : A9 Tryz.prog :=
 BF Tryz.prog Tryz.f141 79 [(2,3),(3,3)] [] [] [] [.any] [] [con_f2v,con_f2w] R_fj [] fun y=>[V.bool y]
def S_fj : AM :=
 Ae Tryz.f141 2 0 X_fj (fun x=>[e_TAk x.1,e_TEv x.2]) fun l=>(d_TAk (at_ l 0),d_TEv (at_ l 1))
structure X_fj_3 where
 FE : TAk
 DG : TEv
def S_fj_3 : AM :=
 Ad Tryz.f141 3 (an [2,3]) [] [] X_fj_3 (fun x=>[(CR e_TAk) x.FE,(CR e_TEv) x.DG]) fun l=>⟨(CS d_TAk) (at_ l 0),(CS d_TEv) (at_ l 1)⟩
structure X_fj_4 where
 FE : TAk
 DG : TEv
 Jo : Bool
def S_fj_4 : AM :=
 Ad Tryz.f141 4 (an [2,3,5]) [] [] X_fj_4 (fun x=>[(CR e_TAk) x.FE,(CR e_TEv) x.DG,V.bool x.Jo]) fun l=>⟨(CS d_TAk) (at_ l 0),(CS d_TEv) (at_ l 1),dB (at_ l 2)⟩
structure X_fj_16 where
 FE : TAk
 DG : TEv
def S_fj_16 : AM :=
 Ad Tryz.f141 16 (an [2,3]) [] [] X_fj_16 (fun x=>[(CR e_TAk) x.FE,(CR e_TEv) x.DG]) fun l=>⟨(CS d_TAk) (at_ l 0),(CS d_TEv) (at_ l 1)⟩
def tt_fj_16 (x : X_fj_16) : TT Tryz.prog R_fj :=
 (.call con_f2w x.DG.Kind fun (y1 : R_f2w) =>
 (.ret (AX x.FE.Kind y1)))
theorem sd_fj_16 (x : X_fj_16) : (tt_fj_16 x).AH :=
 (TT.sC fun _=>TT.sR)
def D_fj_16 : AQ X_fj_16 R_fj:=.of tt_fj_16
theorem ok_fj_16 : AV J_fj S_fj_16 D_fj_16 :=
 lk mxk lbn sd_fj_16
def tt_fj_4 (x : X_fj_4) : TT Tryz.prog R_fj :=
 (.ite (AX x.DG.Kind 5)
 (.ite x.Jo
 (.ret (AX x.FE.Mode 0))
 (.ret false))
 (.ite (AX x.DG.Kind 6)
 (.ret x.Jo)
 (.ite (AX x.DG.Kind 7)
 (.ite x.Jo
 (.ret (AX x.FE.Mode 2))
 (.ret false))
 (.ite (AX x.DG.Kind 2)
 (.call con_f2w x.DG.Kind fun (y1 : R_f2w) =>
 (.ite (AX x.FE.Kind y1)
 (.ret (AX x.FE.AG x.DG.AG))
 (.ret false)))
 (.ite (AX x.DG.Kind 4)
 (.call con_f2w x.DG.Kind fun (y1 : R_f2w) =>
 (.ite (AX x.FE.Kind y1)
 (.ret (AX x.FE.AG x.DG.AG))
 (.ret false)))
 (.ite (AX x.DG.Kind 12)
 (.ite (AX x.FE.Kind 7)
 (.ret (AX x.FE.Value x.DG.Value))
 (.ret false))
 (.jump S_fj_16 D_fj_16 (X_fj_16.mk x.FE x.DG))))))))
theorem sd_fj_4 (x : X_fj_4) : (tt_fj_4 x).AH :=
 (TT.sI (TT.sI TT.sR TT.sR) (TT.sI TT.sR (TT.sI (TT.sI TT.sR TT.sR) (TT.sI (TT.sC fun _=>(TT.sI TT.sR TT.sR)) (TT.sI (TT.sC fun _=>(TT.sI TT.sR TT.sR)) (TT.sI (TT.sI TT.sR TT.sR) TT.sJ))))))
def D_fj_4 : AQ X_fj_4 R_fj:=.of tt_fj_4
theorem ok_fj_4 : AV J_fj S_fj_4 D_fj_4 :=
 lk mxk (lbc ok_fj_16 rfl lbn) sd_fj_4
def tt_fj_3 (x : X_fj_3) : TT Tryz.prog R_fj :=
 (.ite (AX x.FE.Kind 1)
 (.jump S_fj_4 D_fj_4 (X_fj_4.mk x.FE x.DG true))
 (.jump S_fj_4 D_fj_4 (X_fj_4.mk x.FE x.DG (AX x.FE.Kind 2))))
theorem sd_fj_3 (x : X_fj_3) : (tt_fj_3 x).AH :=
 (TT.sI TT.sJ TT.sJ)
def D_fj_3 : AQ X_fj_3 R_fj:=.of tt_fj_3
theorem ok_fj_3 : AV J_fj S_fj_3 D_fj_3 :=
 lk mxk (lbc ok_fj_16 rfl (lbc ok_fj_4 rfl lbn)) sd_fj_3
def tt_fj (x : X_fj) : TT Tryz.prog R_fj :=
 (.call con_f2v x.snd.Kind fun (y1 : R_f2v) =>
 (.ite y1
 (.ite (!(AX x.fst.Ring x.snd.Ring))
 (.ret false)
 (.jump S_fj_3 D_fj_3 (X_fj_3.mk x.fst x.snd)))
 (.jump S_fj_3 D_fj_3 (X_fj_3.mk x.fst x.snd))))
theorem sd_fj (x : X_fj) : (tt_fj x).AH :=
 (TT.sC fun _=>(TT.sI (TT.sI TT.sR TT.sJ) TT.sJ))
def D_fj : AQ X_fj R_fj:=.of tt_fj
def con_fj : A3 Tryz.prog :=
 BZ 141 J_fj S_fj D_fj 2 0 [.any,.any] (lk mxk (lbc ok_fj_16 rfl (lbc ok_fj_4 rfl (lbc ok_fj_3 rfl lbn))) sd_fj)
abbrev X_fo : Type:=TIn × TEv × Int × TTh
abbrev R_fo : Type:=TTh
def J_fo : A9 Tryz.prog :=
 BF Tryz.prog Tryz.f142 121 [(4,3),(6,3),(98,1)] [] [] [] [] [sh_TTh_6] [] R_fo [] fun y=>[V.CC (V.unit),e_TTh_6 y]
def S_fo : AM :=
 Ae Tryz.f142 4 1 X_fo (fun x=>[e_TIn x.1,(V.ptr (.par 0) []),e_TEv x.2.1,(V.int .u64) x.2.2.1,e_TTh_6 x.2.2.2]) fun l=>(d_TIn (at_ l 0),d_TEv (at_ l 2),dI (at_ l 3),d_TTh (at_ l 4))
structure X_fo_23 where
 Ah : TTh
def S_fo_23 : AM :=
 Ad Tryz.f142 23 [(1,.any)] [sh_TTh_6] [] X_fo_23 (fun x=>[(V.ptr (.par 0) []),e_TTh_6 x.Ah]) fun l=>⟨d_TTh (at_ l 1)⟩
def tt_fo_23 (x : X_fo_23) : TT Tryz.prog R_fo :=
 (.ret (TTh.mk (IntKind.i64.wrap (x.Ah.At + 1)) 0 0 x.Ah.Status 0 x.Ah.Af x.Ah.Seen))
theorem sd_fo_23 (x : X_fo_23) : (tt_fo_23 x).AH :=
 TT.sR
def D_fo_23 : AQ X_fo_23 R_fo:=.of tt_fo_23
theorem ok_fo_23 : AV J_fo S_fo_23 D_fo_23 :=
 lk mxk lbn sd_fo_23
def tt_fo (x : X_fo) : TT Tryz.prog R_fo :=
 (.ite (AX x.snd.fst.Kind 2)
 (.need (A0 x.fst.B 8) <|
 (.jump S_fo_23 D_fo_23 (X_fo_23.mk (TTh.mk x.snd.snd.snd.At x.snd.snd.snd.Phase x.snd.snd.snd.Ring x.snd.snd.snd.Status x.snd.snd.snd.AG (fun i1=>(cond (Nat.beq i1 (Int.toNat x.fst.B)) (0 : Int) (x.snd.snd.snd.Af i1))) x.snd.snd.snd.Seen))))
 (.ite (AX x.snd.fst.Kind 4)
 (.need (A0 x.fst.A 8) <|
 (.need (A0 x.fst.B 8) <|
 (.jump S_fo_23 D_fo_23 (X_fo_23.mk (TTh.mk x.snd.snd.snd.At x.snd.snd.snd.Phase x.snd.snd.snd.Ring x.snd.snd.snd.Status x.snd.snd.snd.AG (fun i1=>(cond (Nat.beq i1 (Int.toNat x.fst.B)) (0 : Int) (cond (Nat.beq i1 (Int.toNat x.fst.A)) x.snd.snd.fst (x.snd.snd.snd.Af i1)))) x.snd.snd.snd.Seen)))))
 (.ite (AX x.snd.fst.Kind 5)
 (.need (A0 x.fst.B 8) <|
 (.jump S_fo_23 D_fo_23 (X_fo_23.mk (TTh.mk x.snd.snd.snd.At x.snd.snd.snd.Phase x.snd.snd.snd.Ring x.snd.snd.snd.Status x.snd.snd.snd.AG (fun i1=>(cond (Nat.beq i1 (Int.toNat x.fst.B)) (1 : Int) (x.snd.snd.snd.Af i1))) x.snd.snd.snd.Seen))))
 (.ite (AX x.snd.fst.Kind 6)
 (.need (A0 x.fst.B 8) <|
 (.jump S_fo_23 D_fo_23 (X_fo_23.mk (TTh.mk x.snd.snd.snd.At x.snd.snd.snd.Phase x.snd.snd.snd.Ring x.snd.snd.snd.Status x.snd.snd.snd.AG (fun i1=>(cond (Nat.beq i1 (Int.toNat x.fst.B)) (2 : Int) (x.snd.snd.snd.Af i1))) x.snd.snd.snd.Seen))))
 (.ite (AX x.snd.fst.Kind 7)
 (.need (A0 x.fst.B 8) <|
 (.jump S_fo_23 D_fo_23 (X_fo_23.mk (TTh.mk x.snd.snd.snd.At x.snd.snd.snd.Phase x.snd.snd.snd.Ring x.snd.snd.snd.Status x.snd.snd.snd.AG (fun i1=>(cond (Nat.beq i1 (Int.toNat x.fst.B)) (3 : Int) (x.snd.snd.snd.Af i1))) x.snd.snd.snd.Seen))))
 (.ite (AX x.snd.fst.Kind 8)
 (.need (A0 x.fst.A 8) <|
 (.jump S_fo_23 D_fo_23 (X_fo_23.mk (TTh.mk x.snd.snd.snd.At x.snd.snd.snd.Phase x.snd.snd.snd.Ring x.snd.snd.snd.Status x.snd.snd.snd.AG (fun i1=>(cond (Nat.beq i1 (Int.toNat x.fst.A)) x.snd.fst.Value (x.snd.snd.snd.Af i1))) x.snd.snd.snd.Seen))))
 (.ite (AX x.snd.fst.Kind 9)
 (.need (A0 x.fst.A 8) <|
 (.jump S_fo_23 D_fo_23 (X_fo_23.mk (TTh.mk x.snd.snd.snd.At x.snd.snd.snd.Phase x.snd.snd.snd.Ring x.snd.snd.snd.Status x.snd.snd.snd.AG (fun i1=>(cond (Nat.beq i1 (Int.toNat x.fst.A)) x.snd.fst.Value (x.snd.snd.snd.Af i1))) x.snd.snd.snd.Seen))))
 (.ite (AX x.snd.fst.Kind 10)
 (.need (A0 x.fst.A 8) <|
 (.need (A0 x.fst.B 8) <|
 (.jump S_fo_23 D_fo_23 (X_fo_23.mk (TTh.mk x.snd.snd.snd.At x.snd.snd.snd.Phase x.snd.snd.snd.Ring x.snd.snd.snd.Status x.snd.snd.snd.AG (fun i1=>(cond (Nat.beq i1 (Int.toNat x.fst.B)) (0 : Int) (cond (Nat.beq i1 (Int.toNat x.fst.A)) x.snd.fst.Value (x.snd.snd.snd.Af i1)))) x.snd.snd.snd.Seen)))))
 (.ite (AX x.snd.fst.Kind 11)
 (.need (A0 x.fst.B 8) <|
 (.jump S_fo_23 D_fo_23 (X_fo_23.mk (TTh.mk x.snd.snd.snd.At x.snd.snd.snd.Phase x.snd.snd.snd.Ring x.snd.snd.snd.Status x.snd.snd.snd.AG (fun i1=>(cond (Nat.beq i1 (Int.toNat x.fst.B)) (1 : Int) (x.snd.snd.snd.Af i1))) x.snd.snd.snd.Seen))))
 (.ite (AX x.snd.fst.Kind 12)
 (.need (true && (room (x.snd.snd.snd.Seen.n + 1) 8)) <|
 (.jump S_fo_23 D_fo_23 (X_fo_23.mk (TTh.mk x.snd.snd.snd.At x.snd.snd.snd.Phase x.snd.snd.snd.Ring x.snd.snd.snd.Status x.snd.snd.snd.AG x.snd.snd.snd.Af (Sl.mk (cond (Nat.beq 1 0) x.snd.snd.snd.Seen.nil false) (x.snd.snd.snd.Seen.n + 1) (fun i1=>(cond (Nat.blt i1 x.snd.snd.snd.Seen.n) (x.snd.snd.snd.Seen.get i1) x.snd.fst.Value)))))))
 (.jump S_fo_23 D_fo_23 (X_fo_23.mk x.snd.snd.snd))))))))))))
theorem sd_fo (x : X_fo) : (tt_fo x).AH :=
 (TT.sI (TT.sN TT.sJ) (TT.sI (TT.sN (TT.sN TT.sJ)) (TT.sI (TT.sN TT.sJ) (TT.sI (TT.sN TT.sJ) (TT.sI (TT.sN TT.sJ) (TT.sI (TT.sN TT.sJ) (TT.sI (TT.sN TT.sJ) (TT.sI (TT.sN (TT.sN TT.sJ)) (TT.sI (TT.sN TT.sJ) (TT.sI (TT.sN TT.sJ) TT.sJ))))))))))
def D_fo : AQ X_fo R_fo:=.of tt_fo
def con_fo : A3 Tryz.prog :=
 BZ 142 J_fo S_fo D_fo 4 1 [.any,.any,.any,.any] (lk mxk (lbc ok_fo_23 rfl lbn) sd_fo)
abbrev X_f2b : Type:=(Sl TIn) × TTh × TEv × Int
abbrev R_f2b : Type:=TTh × Int
def J_f2b : A9 Tryz.prog :=
 BF Tryz.prog Tryz.f98 75 [(6,3),(12,1),(42,1)] [] [] [] [sh_TTh,.any] [] [con_f33,con_f39,con_fo,con_fj] R_f2b [] fun y=>[V.CC (V.cons (e_TTh y.1) (V.cons ((V.int .i64) y.2) (V.unit)))]
def S_f2b : AM :=
 Ae Tryz.f98 4 0 X_f2b (fun x=>[esl_TIn x.1,e_TTh x.2.1,e_TEv x.2.2.1,(V.int .u64) x.2.2.2]) fun l=>(dsl_TIn (at_ l 0),d_TTh (at_ l 1),d_TEv (at_ l 2),dI (at_ l 3))
structure X_f2b_8 where
 Bk : (Sl TIn)
 Ur : Int
 ID : TEv
 BA : TTh
 I0 : TTh
def S_f2b_8 : AM :=
 Ad Tryz.f98 8 [(0,hsl_TIn),(3,.any),(5,.any),(6,.any),(8,.any)] [] [(.loc 5 0,sh_TTh_6),(.loc 8 0,sh_TTh_6)] X_f2b_8 (fun x=>[esl_TIn x.Bk,(V.int .u64) x.Ur,(V.ptr (.loc 5 0) []),(CR e_TEv) x.ID,(V.ptr (.loc 8 0) []),e_TTh_6 x.BA,e_TTh_6 x.I0]) fun l=>⟨dsl_TIn (at_ l 0),dI (at_ l 1),(CS d_TEv) (at_ l 3),d_TTh (at_ l 5),d_TTh (at_ l 6)⟩
def tt_f2b_8 (x : X_f2b_8) : TT Tryz.prog R_f2b :=
 (.ite (AX x.ID.Kind 1)
 (.ret ((TTh.mk x.BA.At 1 x.ID.Ring x.BA.Status x.ID.AG x.BA.Af x.BA.Seen),0))
 (.ite (AX x.ID.Kind 3)
 (.ret ((TTh.mk x.BA.At 2 x.ID.Ring x.BA.Status x.ID.AG x.BA.Af x.BA.Seen),0))
 (.ite (AX x.ID.Kind 14)
 (.ret ((TTh.mk x.BA.At x.BA.Phase x.BA.Ring 1 x.BA.AG x.BA.Af x.BA.Seen),0))
 (.ite (AX x.ID.Kind 15)
 (.ret ((TTh.mk x.BA.At x.BA.Phase x.BA.Ring 2 x.BA.AG x.BA.Af x.BA.Seen),0))
 (.need (A0 x.BA.At x.Bk.n) <|
 (.call con_fo ((x.Bk.get (Int.toNat x.BA.At)),(x.ID,(x.Ur,x.BA))) fun (y1 : R_fo) =>
 (.ret (y1,0))))))))
theorem sd_f2b_8 (x : X_f2b_8) : (tt_f2b_8 x).AH :=
 (TT.sI TT.sR (TT.sI TT.sR (TT.sI TT.sR (TT.sI TT.sR (TT.sN (TT.sC fun _=>TT.sR))))))
def D_f2b_8 : AQ X_f2b_8 R_f2b:=.of tt_f2b_8
theorem ok_f2b_8 : AV J_f2b S_f2b_8 D_f2b_8 :=
 lk mxk lbn sd_f2b_8
def tt_f2b (x : X_f2b) : TT Tryz.prog R_f2b :=
 (.call con_f39 (x.fst,x.snd.fst) fun (y1 : R_f39) =>
 (.ite (!(AX y1.snd.snd 0))
 (.ret ((TTh.mk 0 0 0 0 0 (fun i2=>(0 : Int)) (Sl.mk true 0 (fun i2=>(0 : Int)))),y1.snd.snd))
 (.call con_f33 x.snd.snd.fst fun (y2 : R_f33) =>
 (.ite (!y2)
 (.ret ((TTh.mk 0 0 0 0 0 (fun i3=>(0 : Int)) (Sl.mk true 0 (fun i3=>(0 : Int)))),3))
 (.ite (AX y1.snd.fst.Kind 0)
 (.ret ((TTh.mk 0 0 0 0 0 (fun i3=>(0 : Int)) (Sl.mk true 0 (fun i3=>(0 : Int)))),11))
 (.call con_fj (y1.snd.fst,x.snd.snd.fst) fun (y3 : R_fj) =>
 (.ite (!y3)
 (.ret ((TTh.mk 0 0 0 0 0 (fun i4=>(0 : Int)) (Sl.mk true 0 (fun i4=>(0 : Int)))),11))
 (.jump S_f2b_8 D_f2b_8 (X_f2b_8.mk x.fst x.snd.snd.snd x.snd.snd.fst y1.fst (TTh.mk 0 0 0 0 0 (fun i4=>(0 : Int)) (Sl.mk true 0 (fun i4=>(0 : Int)))))))))))))
theorem sd_f2b (x : X_f2b) : (tt_f2b x).AH :=
 (TT.sC fun _=>(TT.sI TT.sR (TT.sC fun _=>(TT.sI TT.sR (TT.sI TT.sR (TT.sC fun _=>(TT.sI TT.sR TT.sJ)))))))
def D_f2b : AQ X_f2b R_f2b:=.of tt_f2b
def con_f2b : A3 Tryz.prog :=
 BZ 98 J_f2b S_f2b D_f2b 4 0 [hsl_TIn,sh_TTh,.any,.any] (lk mxk (lbc ok_f2b_8 rfl lbn) sd_f2b)
abbrev X_f15 : Type:=TEv × TFa
abbrev R_f15 : Type:=Int
abbrev RR_f15 : Type:=Int × TFa
abbrev p_f15 (y : RR_f15) : TFa:=y.2
abbrev w_f15 (x : X_f15) : TFa:=x.2
def J_f15 : A9 Tryz.prog :=
 BF Tryz.prog Tryz.f56 43 [(3,3),(20,1)] [(8,[.back (.loc 33 0)])] [(7,[.Ir (.par 0) [.CI 1 2] 33])] [.back (.loc 33 0)] [.any] [sh_TFa] [con_f33,con_f18,con_f2b] RR_f15 [(0,[⟨.loc 33 0,.par 0,[.CI 1 2],none,none⟩])] fun y=>[(V.int .i64) y.1,e_TFa y.2]
def S_f15 : AM :=
 Ae Tryz.f56 2 1 X_f15 (fun x=>[(V.ptr (.par 0) []),e_TEv x.1,e_TFa x.2]) fun l=>(d_TEv (at_ l 1),d_TFa (at_ l 2))
def tt_f15 (x : X_f15) : TT Tryz.prog RR_f15 :=
 (.call con_f33 x.fst fun (y1 : R_f33) =>
 (.ite (!y1)
 (.ret (3,x.snd))
 (.call con_f18 (x.fst.Thread,x.snd) fun (y2 : R_f18) =>
 (.ite (!y2)
 (.ret (5,x.snd))
 (.need (A0 x.fst.Thread x.snd.p.AB.n) <|
 (.need (A0 x.fst.Thread x.snd.threads.n) <|
 (.need ((Nat.beq x.snd.threads.n x.snd.threads.n) && true) <|
 (.call con_f2b ((x.snd.p.AB.get (Int.toNat x.fst.Thread)),((x.snd.threads.get ((0 : Nat) + (Int.toNat x.fst.Thread))),(x.fst,0))) fun (y3 : R_f2b) =>
 (.need ((true && true) && (Nat.beq x.snd.threads.n x.snd.threads.n)) <|
 (.ret (y3.snd,x.snd)))))))))))
theorem sd_f15 (x : X_f15) : (tt_f15 x).AH :=
 (TT.sC fun _=>(TT.sI TT.sR (TT.sC fun _=>(TT.sI TT.sR (TT.sN (TT.sN (TT.sN (TT.sC fun _=>(TT.sN TT.sR)))))))))
theorem roT_f15 (x : X_f15) : TT.Ro p_f15 (w_f15 x) (tt_f15 x) :=
 (TT.rC fun _=>(TT.rI (TT.rR rfl) (TT.rC fun _=>(TT.rI (TT.rR rfl) (TT.rN (TT.rN (TT.rN (TT.rC fun _=>(TT.rN (TT.rR rfl))))))))))
def D_f15 : AQ X_f15 R_f15:=.ro (.of tt_f15) (fun y=>(y.1)) (fun y x=>(y,x.2)) fun x y h=>congrArg (fun o=>(y.1,o)) (roT_f15 x y h)
def con_f15 : A3 Tryz.prog :=
 C3 56 J_f15 S_f15 (.of tt_f15) D_f15 (fun y x=>(y,x.2)) (fun y=>(V.int .i64) y) 2 1 [.any,.any] (lk mxk lbn sd_f15) (fun x=>⟨(nu_e_TFa : ∀ y,(e_TFa y).CV) (x.2),trivial⟩)
abbrev X_f19 : Type:=Int × TFa
abbrev R_f19 : Type:=TAk
abbrev RR_f19 : Type:=TAk × TFa
abbrev p_f19 (y : RR_f19) : TFa:=y.2
abbrev w_f19 (x : X_f19) : TFa:=x.2
def J_f19 : A9 Tryz.prog :=
 BF Tryz.prog Tryz.f59 29 [(8,1)] [(2,[.back (.loc 20 0)])] [(1,[.Ir (.par 0) [.CI 1 2] 20])] [.back (.loc 20 0)] [.any] [sh_TFa] [con_f39] RR_f19 [(0,[⟨.loc 20 0,.par 0,[.CI 1 2],none,none⟩])] fun y=>[e_TAk y.1,e_TFa y.2]
def S_f19 : AM :=
 Ae Tryz.f59 2 1 X_f19 (fun x=>[(V.ptr (.par 0) []),(V.int .i64) x.1,e_TFa x.2]) fun l=>(dI (at_ l 1),d_TFa (at_ l 2))
def tt_f19 (x : X_f19) : TT Tryz.prog RR_f19 :=
 (.need (A0 x.fst x.snd.p.AB.n) <|
 (.need (A0 x.fst x.snd.threads.n) <|
 (.need ((Nat.beq x.snd.threads.n x.snd.threads.n) && true) <|
 (.call con_f39 ((x.snd.p.AB.get (Int.toNat x.fst)),(x.snd.threads.get ((0 : Nat) + (Int.toNat x.fst)))) fun (y1 : R_f39) =>
 (.need ((true && true) && (Nat.beq x.snd.threads.n x.snd.threads.n)) <|
 (.ret (y1.snd.fst,x.snd)))))))
theorem sd_f19 (x : X_f19) : (tt_f19 x).AH :=
 (TT.sN (TT.sN (TT.sN (TT.sC fun _=>(TT.sN TT.sR)))))
theorem roT_f19 (x : X_f19) : TT.Ro p_f19 (w_f19 x) (tt_f19 x) :=
 (TT.rN (TT.rN (TT.rN (TT.rC fun _=>(TT.rN (TT.rR rfl))))))
def D_f19 : AQ X_f19 R_f19:=.ro (.of tt_f19) (fun y=>(y.1)) (fun y x=>(y,x.2)) fun x y h=>congrArg (fun o=>(y.1,o)) (roT_f19 x y h)
def con_f19 : A3 Tryz.prog :=
 C3 59 J_f19 S_f19 (.of tt_f19) D_f19 (fun y x=>(y,x.2)) (fun y=>e_TAk y) 2 1 [.any,.any] (lk mxk lbn sd_f19) (fun x=>⟨(nu_e_TFa : ∀ y,(e_TFa y).CV) (x.2),trivial⟩)
abbrev X_f1e : Type:=TRr
abbrev R_f1e : Type:=Bool
abbrev RR_f1e : Type:=Bool × TRr
abbrev p_f1e (y : RR_f1e) : TRr:=y.2
abbrev w_f1e (x : X_f1e) : TRr:=x
def J_f1e : A9 Tryz.prog :=
 BF Tryz.prog Tryz.f61 11 [] [] [] [] [.any] [sh_TRr] [] RR_f1e [] fun y=>[V.bool y.1,e_TRr y.2]
def S_f1e : AM :=
 Ae Tryz.f61 1 1 X_f1e (fun x=>[(V.ptr (.par 0) []),e_TRr x]) fun l=>(d_TRr (at_ l 1))
def tt_f1e (x : X_f1e) : TT Tryz.prog RR_f1e :=
 (.ret (x.closed,x))
theorem sd_f1e (x : X_f1e) : (tt_f1e x).AH :=
 TT.sR
theorem roT_f1e (x : X_f1e) : TT.Ro p_f1e (w_f1e x) (tt_f1e x) :=
 (TT.rR rfl)
def D_f1e : AQ X_f1e R_f1e:=.ro (.of tt_f1e) (fun y=>(y.1)) (fun y x=>(y,x)) fun x y h=>congrArg (fun o=>(y.1,o)) (roT_f1e x y h)
def con_f1e : A3 Tryz.prog :=
 C3 61 J_f1e S_f1e (.of tt_f1e) D_f1e (fun y x=>(y,x)) (fun y=>V.bool y) 1 1 [.any] (lk mxk lbn sd_f1e) (fun x=>⟨(nu_e_TRr : ∀ y,(e_TRr y).CV) (x),trivial⟩)
abbrev X_f5 : Type:=(Ar Int)
abbrev R_f5 : Type:=Int
abbrev RR_f5 : Type:=Int × (Ar Int)
abbrev p_f5 (y : RR_f5) : (Ar Int):=y.2
abbrev w_f5 (x : X_f5) : (Ar Int):=x
def J_f5 : A9 Tryz.prog :=
 BF Tryz.prog Tryz.f182 25 [] [] [] [] [.any] [.any] [] RR_f5 [] fun y=>[(V.int .u64) y.1,(Jy 1 (V.int .u64)) y.2]
def S_f5 : AM :=
 Ae Tryz.f182 1 1 X_f5 (fun x=>[(V.own (.par 0) [] 1 x.n 0 x.n),(Jy 1 (V.int .u64)) x]) fun l=>((Pz dI) (at_ l 1))
structure X_f5_3 where
 Ah : (Ar Int)
def S_f5_3 : AM :=
 Ad Tryz.f182 3 [(0,.any)] [.any] [] X_f5_3 (fun x=>[(V.own (.par 0) [] 1 x.Ah.n 0 x.Ah.n),(Jy 1 (V.int .u64)) x.Ah]) fun l=>⟨(Pz dI) (at_ l 1)⟩
structure X_f5_5 where
 BG : Int
 Ek : Int
 Ah : (Ar Int)
def S_f5_5 : AM :=
 Ad Tryz.f182 5 (an [0,3,4]) [.any] [] X_f5_5 (fun x=>[(V.own (.par 0) [] 1 x.Ah.n 0 x.Ah.n),(V.int .u64) x.BG,(V.int .i64) x.Ek,(Jy 1 (V.int .u64)) x.Ah]) fun l=>⟨dI (at_ l 1),dI (at_ l 2),(Pz dI) (at_ l 3)⟩
abbrev w_f5_3 (x : X_f5_3) : (Ar Int):=(x.Ah)
abbrev w_f5_5 (x : X_f5_5) : (Ar Int):=(x.Ah)
def tt_f5_5 (D_f5_5 : AQ X_f5_5 RR_f5) (x : X_f5_5) : TT Tryz.prog RR_f5 :=
 (.ite (BS x.Ek ((x.Ah.n : Nat) : Int))
 (.need (A0 x.Ek x.Ah.n) <|
 (.need ((Nat.beq x.Ah.n x.Ah.n) && true) <|
 (.jump S_f5_5 D_f5_5 (X_f5_5.mk (Nx x.BG (x.Ah.get ((0 : Nat) + (Int.toNat x.Ek)))) (IntKind.i64.wrap (x.Ek + 1)) x.Ah))))
 (.ret (x.BG,x.Ah)))
theorem sd_f5_5 (D_f5_5 : AQ X_f5_5 RR_f5) (x : X_f5_5) : (tt_f5_5 D_f5_5 x).AH :=
 (TT.sI (TT.sN (TT.sN TT.sJ)) TT.sR)
theorem roT_f5_5 (D_f5_5 : AQ X_f5_5 RR_f5) (r5 : ∀ x y,D_f5_5.rel x y → p_f5 y = w_f5_5 x) (x : X_f5_5) : TT.Ro p_f5 (w_f5_5 x) (tt_f5_5 D_f5_5 x) :=
 (TT.rI (TT.rN (TT.rN (TT.rJ (r5 _)))) (TT.rR rfl))
def D_f5_5 : AQ X_f5_5 RR_f5:=AQ.loop tt_f5_5
theorem ok_f5_5 : AV J_f5 S_f5_5 D_f5_5 :=
 Az fun D_f5_5 h_5=>lk mxk (lbc h_5 rfl lbn) (sd_f5_5 D_f5_5)
theorem ro_f5_5 : ∀ x y,D_f5_5.rel x y → p_f5 y = w_f5_5 x :=
 Ju fun D_f5_5 r5=>roT_f5_5 D_f5_5 r5
def tt_f5_3 (x : X_f5_3) : TT Tryz.prog RR_f5 :=
 (.need (A0 0 x.Ah.n) <|
 (.need ((Nat.beq x.Ah.n x.Ah.n) && true) <|
 (.jump S_f5_5 D_f5_5 (X_f5_5.mk (x.Ah.get ((0 : Nat) + (Int.toNat 0))) 1 x.Ah))))
theorem sd_f5_3 (x : X_f5_3) : (tt_f5_3 x).AH :=
 (TT.sN (TT.sN TT.sJ))
theorem roT_f5_3 (x : X_f5_3) : TT.Ro p_f5 (w_f5_3 x) (tt_f5_3 x) :=
 (TT.rN (TT.rN (TT.rJ (ro_f5_5 _))))
def D_f5_3 : AQ X_f5_3 RR_f5:=.of tt_f5_3
theorem ok_f5_3 : AV J_f5 S_f5_3 D_f5_3 :=
 lk mxk (lbc ok_f5_5 rfl lbn) sd_f5_3
theorem ro_f5_3 : ∀ x y,D_f5_3.rel x y → p_f5 y = w_f5_3 x :=
 roT_f5_3 
def tt_f5 (x : X_f5) : TT Tryz.prog RR_f5 :=
 (.ite (BS ((x.n : Nat) : Int) 1)
 .fail
 (.jump S_f5_3 D_f5_3 (X_f5_3.mk x)))
theorem sd_f5 (x : X_f5) : (tt_f5 x).AH :=
 (TT.sI TT.Oz TT.sJ)
theorem roT_f5 (x : X_f5) : TT.Ro p_f5 (w_f5 x) (tt_f5 x) :=
 (TT.rI TT.S9 (TT.rJ (ro_f5_3 _)))
def D_f5 : AQ X_f5 R_f5:=.ro (.of tt_f5) (fun y=>(y.1)) (fun y x=>(y,x)) fun x y h=>congrArg (fun o=>(y.1,o)) (roT_f5 x y h)
def con_f5 : A3 Tryz.prog :=
 C3 182 J_f5 S_f5 (.of tt_f5) D_f5 (fun y x=>(y,x)) (fun y=>(V.int .u64) y) 1 1 [.any] (lk mxk (lbc ok_f5_5 rfl (lbc ok_f5_3 rfl lbn)) sd_f5) (fun x=>⟨(fun _ _=>trivial : ∀ y,((Jy 1 (V.int .u64)) y).CV) (x),trivial⟩)
abbrev X_f1i : Type:=TRc
abbrev R_f1i : Type:=Int
abbrev RR_f1i : Type:=Int × TRc
abbrev p_f1i (y : RR_f1i) : TRc:=y.2
abbrev w_f1i (x : X_f1i) : TRc:=x
def J_f1i : A9 Tryz.prog :=
 BF Tryz.prog Tryz.f148 8 [] [] [] [.back (.loc 6 0)] [.any] [sh_TRc] [con_f5] RR_f1i [] fun y=>[(V.int .u64) y.1,e_TRc y.2]
def S_f1i : AM :=
 Ae Tryz.f148 1 1 X_f1i (fun x=>[(V.ptr (.par 0) []),e_TRc x]) fun l=>(d_TRc (at_ l 1))
def tt_f1i (x : X_f1i) : TT Tryz.prog RR_f1i :=
 (.call con_f5 (Ar.mk x.AD.n x.AD.get) fun (y1 : R_f5) =>
 (.need ((true && true) && (Nat.beq x.AD.n x.AD.n)) <|
 (.ret (y1,x))))
theorem sd_f1i (x : X_f1i) : (tt_f1i x).AH :=
 (TT.sC fun _=>(TT.sN TT.sR))
theorem roT_f1i (x : X_f1i) : TT.Ro p_f1i (w_f1i x) (tt_f1i x) :=
 (TT.rC fun _=>(TT.rN (TT.rR rfl)))
def D_f1i : AQ X_f1i R_f1i:=.ro (.of tt_f1i) (fun y=>(y.1)) (fun y x=>(y,x)) fun x y h=>congrArg (fun o=>(y.1,o)) (roT_f1i x y h)
def con_f1i : A3 Tryz.prog :=
 C3 148 J_f1i S_f1i (.of tt_f1i) D_f1i (fun y x=>(y,x)) (fun y=>(V.int .u64) y) 1 1 [.any] (lk mxk lbn sd_f1i) (fun x=>⟨(nu_e_TRc : ∀ y,(e_TRc y).CV) (x),trivial⟩)
abbrev X_f1q : Type:=TRr
abbrev R_f1q : Type:=Bool
abbrev RR_f1q : Type:=Bool × TRr
abbrev p_f1q (y : RR_f1q) : TRr:=y.2
abbrev w_f1q (x : X_f1q) : TRr:=x
def J_f1q : A9 Tryz.prog :=
 BF Tryz.prog Tryz.f105 22 [] [] [] [] [.any] [sh_TRr] [con_f1i] RR_f1q [] fun y=>[V.bool y.1,e_TRr y.2]
def S_f1q : AM :=
 Ae Tryz.f105 1 1 X_f1q (fun x=>[(V.ptr (.par 0) []),e_TRr x]) fun l=>(d_TRr (at_ l 1))
def tt_f1q (x : X_f1q) : TT Tryz.prog RR_f1q :=
 (.call con_f1i x.AA fun (y1 : R_f1i) =>
 (.ret ((Bd x.most (IntKind.u64.wrap (x.AA.tail - y1))),x)))
theorem sd_f1q (x : X_f1q) : (tt_f1q x).AH :=
 (TT.sC fun _=>TT.sR)
theorem roT_f1q (x : X_f1q) : TT.Ro p_f1q (w_f1q x) (tt_f1q x) :=
 (TT.rC fun _=>(TT.rR rfl))
def D_f1q : AQ X_f1q R_f1q:=.ro (.of tt_f1q) (fun y=>(y.1)) (fun y x=>(y,x)) fun x y h=>congrArg (fun o=>(y.1,o)) (roT_f1q x y h)
def con_f1q : A3 Tryz.prog :=
 C3 105 J_f1q S_f1q (.of tt_f1q) D_f1q (fun y x=>(y,x)) (fun y=>V.bool y) 1 1 [.any] (lk mxk lbn sd_f1q) (fun x=>⟨(nu_e_TRr : ∀ y,(e_TRr y).CV) (x),trivial⟩)
abbrev X_fw : Type:=Int × TRc
abbrev R_fw : Type:=Bool
abbrev RR_fw : Type:=Bool × TRc
abbrev p_fw (y : RR_fw) : TRc:=y.2
abbrev w_fw (x : X_fw) : TRc:=x.2
def J_fw : A9 Tryz.prog :=
 BF Tryz.prog Tryz.f130 16 [] [] [] [.back (.loc 12 0)] [.any] [sh_TRc] [] RR_fw [] fun y=>[V.bool y.1,e_TRc y.2]
def S_fw : AM :=
 Ae Tryz.f130 2 1 X_fw (fun x=>[(V.ptr (.par 0) []),(V.int .i64) x.1,e_TRc x.2]) fun l=>(dI (at_ l 1),d_TRc (at_ l 2))
def tt_fw (x : X_fw) : TT Tryz.prog RR_fw :=
 (.ite (Bd 0 x.fst)
 (.need ((true && true) && (Nat.beq x.snd.AD.n x.snd.AD.n)) <|
 (.ret ((BS x.fst ((x.snd.AD.n : Nat) : Int)),x.snd)))
 (.ret (false,x.snd)))
theorem sd_fw (x : X_fw) : (tt_fw x).AH :=
 (TT.sI (TT.sN TT.sR) TT.sR)
theorem roT_fw (x : X_fw) : TT.Ro p_fw (w_fw x) (tt_fw x) :=
 (TT.rI (TT.rN (TT.rR rfl)) (TT.rR rfl))
def D_fw : AQ X_fw R_fw:=.ro (.of tt_fw) (fun y=>(y.1)) (fun y x=>(y,x.2)) fun x y h=>congrArg (fun o=>(y.1,o)) (roT_fw x y h)
def con_fw : A3 Tryz.prog :=
 C3 130 J_fw S_fw (.of tt_fw) D_fw (fun y x=>(y,x.2)) (fun y=>V.bool y) 2 1 [.any,.any] (lk mxk lbn sd_fw) (fun x=>⟨(nu_e_TRc : ∀ y,(e_TRc y).CV) (x.2),trivial⟩)
structure TRc_L1 where
 tail : Int
 AD : Ln
def d_TRc_L1 (v : V) : TRc_L1 :=
 ⟨dI (fd v 0),S3 (fd v 1)⟩
def e_TRc_L1_1 (x : TRc_L1) : V :=
 V.cons ((V.int .u64) x.tail) (V.cons ((eLn (.par 1) 41 1) x.AD) (V.unit))
theorem nu_e_TRc_L1_1 (x : TRc_L1) : (e_TRc_L1_1 x).CV:=⟨trivial,trivial,trivial⟩
abbrev X_f12 : Type:=Int × TRc_L1 × (Ar Int)
abbrev R_f12 : Type:=Bool
abbrev RR_f12 : Type:=Bool × TRc_L1 × (Ar Int)
abbrev p_f12 (y : RR_f12) : TRc_L1 × (Ar Int):=y.2
abbrev w_f12 (x : X_f12) : TRc_L1 × (Ar Int):=x.2
def J_f12 : A9 Tryz.prog :=
 BF Tryz.prog Tryz.f130 16 [] [] [] [] [.any] [.any,.any] [] RR_f12 [] fun y=>[V.bool y.1,e_TRc_L1_1 y.2.1,(Jy 1 (V.int .u64)) y.2.2]
def S_f12 : AM :=
 Ae Tryz.f130 2 2 X_f12 (fun x=>[(V.ptr (.par 0) []),(V.int .i64) x.1,e_TRc_L1_1 x.2.1,(Jy 1 (V.int .u64)) x.2.2]) fun l=>(dI (at_ l 1),d_TRc_L1 (at_ l 2),(Pz dI) (at_ l 3))
def tt_f12 (x : X_f12) : TT Tryz.prog RR_f12 :=
 (.ite (Bd 0 x.fst)
 (.ret ((BS x.fst ((x.snd.fst.AD.n : Nat) : Int)),x.snd))
 (.ret (false,x.snd)))
theorem sd_f12 (x : X_f12) : (tt_f12 x).AH :=
 (TT.sI TT.sR TT.sR)
theorem roT_f12 (x : X_f12) : TT.Ro p_f12 (w_f12 x) (tt_f12 x) :=
 (TT.rI (TT.rR rfl) (TT.rR rfl))
def D_f12 : AQ X_f12 R_f12:=.ro (.of tt_f12) (fun y=>(y.1)) (fun y x=>(y,x.2)) fun x y h=>congrArg (fun o=>(y.1,o)) (roT_f12 x y h)
def con_f12 : A3 Tryz.prog :=
 C3 130 J_f12 S_f12 (.of tt_f12) D_f12 (fun y x=>(y,x.2)) (fun y=>V.bool y) 2 2 [.any,.any] (lk mxk lbn sd_f12) (fun x=>⟨(nu_e_TRc_L1_1 : ∀ y,(e_TRc_L1_1 y).CV) (x.2.1),(fun _ _=>trivial : ∀ y,((Jy 1 (V.int .u64)) y).CV) (x.2.2),trivial⟩)
abbrev X_f1g : Type:=Int × TRr
abbrev R_f1g : Type:=Bool
abbrev RR_f1g : Type:=Bool × TRr
abbrev p_f1g (y : RR_f1g) : TRr:=y.2
abbrev w_f1g (x : X_f1g) : TRr:=x.2
def J_f1g : A9 Tryz.prog :=
 BF Tryz.prog Tryz.f106 31 [] [] [(1,[.Ir (.par 0) [.CI 0 0,.CI 1 1] 12,.Ir (.par 0) [.CI 0 0,.CI 1 1] 19])] [.back (.loc 19 0),.back (.loc 12 0)] [.any] [sh_TRr] [con_f12] RR_f1g [(0,[⟨.loc 12 0,.par 0,[.CI 0 0,.CI 1 1],none,none⟩,⟨.loc 19 0,.par 0,[.CI 0 0,.CI 1 1],none,none⟩])] fun y=>[V.bool y.1,e_TRr y.2]
def S_f1g : AM :=
 Ae Tryz.f106 2 1 X_f1g (fun x=>[(V.ptr (.par 0) []),(V.int .i64) x.1,e_TRr x.2]) fun l=>(dI (at_ l 1),d_TRr (at_ l 2))
def tt_f1g (x : X_f1g) : TT Tryz.prog RR_f1g :=
 (.call con_f12 (x.fst,((TRc_L1.mk x.snd.AA.tail (Ln.mk x.snd.AA.AD.nil x.snd.AA.AD.n)),(Ar.mk x.snd.AA.AD.n x.snd.AA.AD.get))) fun (y1 : R_f12) =>
 (.ite (!y1)
 (.need ((true && true) && (Nat.beq x.snd.AA.AD.n x.snd.AA.AD.n)) <|
 (.ret (true,x.snd)))
 (.need (A0 x.fst x.snd.AA.AD.n) <|
 (.need ((Nat.beq x.snd.AA.AD.n x.snd.AA.AD.n) && true) <|
 (.need ((true && true) && (Nat.beq x.snd.AA.AD.n x.snd.AA.AD.n)) <|
 (.ret ((AX (x.snd.AA.AD.get ((0 : Nat) + (Int.toNat x.fst))) x.snd.AA.tail),x.snd)))))))
theorem sd_f1g (x : X_f1g) : (tt_f1g x).AH :=
 (TT.sC fun _=>(TT.sI (TT.sN TT.sR) (TT.sN (TT.sN (TT.sN TT.sR)))))
theorem roT_f1g (x : X_f1g) : TT.Ro p_f1g (w_f1g x) (tt_f1g x) :=
 (TT.rC fun _=>(TT.rI (TT.rN (TT.rR rfl)) (TT.rN (TT.rN (TT.rN (TT.rR rfl))))))
def D_f1g : AQ X_f1g R_f1g:=.ro (.of tt_f1g) (fun y=>(y.1)) (fun y x=>(y,x.2)) fun x y h=>congrArg (fun o=>(y.1,o)) (roT_f1g x y h)
def con_f1g : A3 Tryz.prog :=
 C3 106 J_f1g S_f1g (.of tt_f1g) D_f1g (fun y x=>(y,x.2)) (fun y=>V.bool y) 2 1 [.any,.any] (lk mxk lbn sd_f1g) (fun x=>⟨(nu_e_TRr : ∀ y,(e_TRr y).CV) (x.2),trivial⟩)
abbrev X_f16 : Type:=TAk × TFa
abbrev R_f16 : Type:=Bool
abbrev RR_f16 : Type:=Bool × TFa
abbrev p_f16 (y : RR_f16) : TFa:=y.2
abbrev w_f16 (x : X_f16) : TFa:=x.2
def J_f16 : A9 Tryz.prog :=
 BF Tryz.prog Tryz.f60 27 [(3,3)] [] [(1,[.Ir (.par 0) [.CI 2 3] 9])] [.back (.loc 13 0),.back (.loc 9 0)] [.any] [sh_TFa] [con_f1e,con_f1g,con_f1q] RR_f16 [(0,[⟨.loc 9 0,.par 0,[.CI 2 3],none,none⟩])] fun y=>[V.bool y.1,e_TFa y.2]
def S_f16 : AM :=
 Ae Tryz.f60 2 1 X_f16 (fun x=>[(V.ptr (.par 0) []),e_TAk x.1,e_TFa x.2]) fun l=>(d_TAk (at_ l 1),d_TFa (at_ l 2))
def tt_f16 (x : X_f16) : TT Tryz.prog RR_f16 :=
 (.need (A0 x.fst.Ring x.snd.rings.n) <|
 (.need (((Nat.beq x.snd.rings.n x.snd.rings.n) && true) && (!(x.snd.rings.get ((0 : Nat) + (Int.toNat x.fst.Ring))).nil)) <|
 (.ite (AX x.fst.Kind 1)
 (.call con_f1e (x.snd.rings.get ((0 : Nat) + (Int.toNat x.fst.Ring))).x fun (y1 : R_f1e) =>
 (.ite y1
 (.need ((true && true) && (((Nat.beq x.snd.rings.n x.snd.rings.n) && (Nat.blt ((0 : Nat) + (Int.toNat x.fst.Ring)) x.snd.rings.n)) && (!(x.snd.rings.get ((0 : Nat) + (Int.toNat x.fst.Ring))).nil))) <|
 (.side (((fun v : Nat → V=>v = v) (fun i2=>(cond (Nat.beq i2 ((0 : Nat) + (Int.toNat x.fst.Ring))) (V.ptr (Id.loc 13 0) List.nil) (V.Ai (x.snd.rings.get i2).nil (V.cons (V.cons (V.int IntKind.u64 (x.snd.rings.get i2).x.AA.tail) (V.cons (V.A4 41 1 (x.snd.rings.get i2).x.AA.AD.nil (x.snd.rings.get i2).x.AA.AD.n (fun i3=>(V.int IntKind.u64 ((x.snd.rings.get i2).x.AA.AD.get i3)))) V.unit)) (V.cons (V.Ai (x.snd.rings.get i2).x.s.nil (V.cons (V.A4 206 3 (x.snd.rings.get i2).x.s.x.l.nil (x.snd.rings.get i2).x.s.x.l.n (fun i3=>(V.cons (V.int IntKind.u64 ((x.snd.rings.get i2).x.s.x.l.get i3).AO) (V.cons (V.int IntKind.u64 ((x.snd.rings.get i2).x.s.x.l.get i3).Value) (V.cons (V.int IntKind.i64 ((x.snd.rings.get i2).x.s.x.l.get i3).Left) V.unit))))) (V.cons (V.int IntKind.i64 (x.snd.rings.get i2).x.s.x.AW) V.unit))) (V.cons (V.int IntKind.u64 (x.snd.rings.get i2).x.most) (V.cons (V.bool (x.snd.rings.get i2).x.closed) V.unit)))))))) ∧ (((fun v : V=>v = v) (V.cons (V.cons (V.int IntKind.u64 (x.snd.rings.get ((0 : Nat) + (Int.toNat x.fst.Ring))).x.AA.tail) (V.cons (V.A4 41 1 (x.snd.rings.get ((0 : Nat) + (Int.toNat x.fst.Ring))).x.AA.AD.nil (x.snd.rings.get ((0 : Nat) + (Int.toNat x.fst.Ring))).x.AA.AD.n (fun i2=>(V.int IntKind.u64 ((x.snd.rings.get ((0 : Nat) + (Int.toNat x.fst.Ring))).x.AA.AD.get i2)))) V.unit)) (V.cons (V.Ai (x.snd.rings.get ((0 : Nat) + (Int.toNat x.fst.Ring))).x.s.nil (V.cons (V.A4 206 3 (x.snd.rings.get ((0 : Nat) + (Int.toNat x.fst.Ring))).x.s.x.l.nil (x.snd.rings.get ((0 : Nat) + (Int.toNat x.fst.Ring))).x.s.x.l.n (fun i2=>(V.cons (V.int IntKind.u64 ((x.snd.rings.get ((0 : Nat) + (Int.toNat x.fst.Ring))).x.s.x.l.get i2).AO) (V.cons (V.int IntKind.u64 ((x.snd.rings.get ((0 : Nat) + (Int.toNat x.fst.Ring))).x.s.x.l.get i2).Value) (V.cons (V.int IntKind.i64 ((x.snd.rings.get ((0 : Nat) + (Int.toNat x.fst.Ring))).x.s.x.l.get i2).Left) V.unit))))) (V.cons (V.int IntKind.i64 (x.snd.rings.get ((0 : Nat) + (Int.toNat x.fst.Ring))).x.s.x.AW) V.unit))) (V.cons (V.int IntKind.u64 (x.snd.rings.get ((0 : Nat) + (Int.toNat x.fst.Ring))).x.most) (V.cons (V.bool (x.snd.rings.get ((0 : Nat) + (Int.toNat x.fst.Ring))).x.closed) V.unit))))) ∧ ((fun v : V=>v = v) (V.Ai (x.snd.rings.get ((0 : Nat) + (Int.toNat x.fst.Ring))).nil (V.cons (V.cons (V.int IntKind.u64 (x.snd.rings.get ((0 : Nat) + (Int.toNat x.fst.Ring))).x.AA.tail) (V.cons (V.A4 41 1 (x.snd.rings.get ((0 : Nat) + (Int.toNat x.fst.Ring))).x.AA.AD.nil (x.snd.rings.get ((0 : Nat) + (Int.toNat x.fst.Ring))).x.AA.AD.n (fun i2=>(V.int IntKind.u64 ((x.snd.rings.get ((0 : Nat) + (Int.toNat x.fst.Ring))).x.AA.AD.get i2)))) V.unit)) (V.cons (V.Ai (x.snd.rings.get ((0 : Nat) + (Int.toNat x.fst.Ring))).x.s.nil (V.cons (V.A4 206 3 (x.snd.rings.get ((0 : Nat) + (Int.toNat x.fst.Ring))).x.s.x.l.nil (x.snd.rings.get ((0 : Nat) + (Int.toNat x.fst.Ring))).x.s.x.l.n (fun i2=>(V.cons (V.int IntKind.u64 ((x.snd.rings.get ((0 : Nat) + (Int.toNat x.fst.Ring))).x.s.x.l.get i2).AO) (V.cons (V.int IntKind.u64 ((x.snd.rings.get ((0 : Nat) + (Int.toNat x.fst.Ring))).x.s.x.l.get i2).Value) (V.cons (V.int IntKind.i64 ((x.snd.rings.get ((0 : Nat) + (Int.toNat x.fst.Ring))).x.s.x.l.get i2).Left) V.unit))))) (V.cons (V.int IntKind.i64 (x.snd.rings.get ((0 : Nat) + (Int.toNat x.fst.Ring))).x.s.x.AW) V.unit))) (V.cons (V.int IntKind.u64 (x.snd.rings.get ((0 : Nat) + (Int.toNat x.fst.Ring))).x.most) (V.cons (V.bool (x.snd.rings.get ((0 : Nat) + (Int.toNat x.fst.Ring))).x.closed) V.unit)))))))) <|
 (.need ((true && true) && (Nat.beq x.snd.rings.n x.snd.rings.n)) <|
 (.ret (true,x.snd)))))
 (.call con_f1q (x.snd.rings.get ((0 : Nat) + (Int.toNat x.fst.Ring))).x fun (y2 : R_f1q) =>
 (.need ((true && true) && (((Nat.beq x.snd.rings.n x.snd.rings.n) && (Nat.blt ((0 : Nat) + (Int.toNat x.fst.Ring)) x.snd.rings.n)) && (!(x.snd.rings.get ((0 : Nat) + (Int.toNat x.fst.Ring))).nil))) <|
 (.side (((fun v : Nat → V=>v = v) (fun i3=>(cond (Nat.beq i3 ((0 : Nat) + (Int.toNat x.fst.Ring))) (V.ptr (Id.loc 13 0) List.nil) (V.Ai (x.snd.rings.get i3).nil (V.cons (V.cons (V.int IntKind.u64 (x.snd.rings.get i3).x.AA.tail) (V.cons (V.A4 41 1 (x.snd.rings.get i3).x.AA.AD.nil (x.snd.rings.get i3).x.AA.AD.n (fun i4=>(V.int IntKind.u64 ((x.snd.rings.get i3).x.AA.AD.get i4)))) V.unit)) (V.cons (V.Ai (x.snd.rings.get i3).x.s.nil (V.cons (V.A4 206 3 (x.snd.rings.get i3).x.s.x.l.nil (x.snd.rings.get i3).x.s.x.l.n (fun i4=>(V.cons (V.int IntKind.u64 ((x.snd.rings.get i3).x.s.x.l.get i4).AO) (V.cons (V.int IntKind.u64 ((x.snd.rings.get i3).x.s.x.l.get i4).Value) (V.cons (V.int IntKind.i64 ((x.snd.rings.get i3).x.s.x.l.get i4).Left) V.unit))))) (V.cons (V.int IntKind.i64 (x.snd.rings.get i3).x.s.x.AW) V.unit))) (V.cons (V.int IntKind.u64 (x.snd.rings.get i3).x.most) (V.cons (V.bool (x.snd.rings.get i3).x.closed) V.unit)))))))) ∧ (((fun v : V=>v = v) (V.cons (V.cons (V.int IntKind.u64 (x.snd.rings.get ((0 : Nat) + (Int.toNat x.fst.Ring))).x.AA.tail) (V.cons (V.A4 41 1 (x.snd.rings.get ((0 : Nat) + (Int.toNat x.fst.Ring))).x.AA.AD.nil (x.snd.rings.get ((0 : Nat) + (Int.toNat x.fst.Ring))).x.AA.AD.n (fun i3=>(V.int IntKind.u64 ((x.snd.rings.get ((0 : Nat) + (Int.toNat x.fst.Ring))).x.AA.AD.get i3)))) V.unit)) (V.cons (V.Ai (x.snd.rings.get ((0 : Nat) + (Int.toNat x.fst.Ring))).x.s.nil (V.cons (V.A4 206 3 (x.snd.rings.get ((0 : Nat) + (Int.toNat x.fst.Ring))).x.s.x.l.nil (x.snd.rings.get ((0 : Nat) + (Int.toNat x.fst.Ring))).x.s.x.l.n (fun i3=>(V.cons (V.int IntKind.u64 ((x.snd.rings.get ((0 : Nat) + (Int.toNat x.fst.Ring))).x.s.x.l.get i3).AO) (V.cons (V.int IntKind.u64 ((x.snd.rings.get ((0 : Nat) + (Int.toNat x.fst.Ring))).x.s.x.l.get i3).Value) (V.cons (V.int IntKind.i64 ((x.snd.rings.get ((0 : Nat) + (Int.toNat x.fst.Ring))).x.s.x.l.get i3).Left) V.unit))))) (V.cons (V.int IntKind.i64 (x.snd.rings.get ((0 : Nat) + (Int.toNat x.fst.Ring))).x.s.x.AW) V.unit))) (V.cons (V.int IntKind.u64 (x.snd.rings.get ((0 : Nat) + (Int.toNat x.fst.Ring))).x.most) (V.cons (V.bool (x.snd.rings.get ((0 : Nat) + (Int.toNat x.fst.Ring))).x.closed) V.unit))))) ∧ ((fun v : V=>v = v) (V.Ai (x.snd.rings.get ((0 : Nat) + (Int.toNat x.fst.Ring))).nil (V.cons (V.cons (V.int IntKind.u64 (x.snd.rings.get ((0 : Nat) + (Int.toNat x.fst.Ring))).x.AA.tail) (V.cons (V.A4 41 1 (x.snd.rings.get ((0 : Nat) + (Int.toNat x.fst.Ring))).x.AA.AD.nil (x.snd.rings.get ((0 : Nat) + (Int.toNat x.fst.Ring))).x.AA.AD.n (fun i3=>(V.int IntKind.u64 ((x.snd.rings.get ((0 : Nat) + (Int.toNat x.fst.Ring))).x.AA.AD.get i3)))) V.unit)) (V.cons (V.Ai (x.snd.rings.get ((0 : Nat) + (Int.toNat x.fst.Ring))).x.s.nil (V.cons (V.A4 206 3 (x.snd.rings.get ((0 : Nat) + (Int.toNat x.fst.Ring))).x.s.x.l.nil (x.snd.rings.get ((0 : Nat) + (Int.toNat x.fst.Ring))).x.s.x.l.n (fun i3=>(V.cons (V.int IntKind.u64 ((x.snd.rings.get ((0 : Nat) + (Int.toNat x.fst.Ring))).x.s.x.l.get i3).AO) (V.cons (V.int IntKind.u64 ((x.snd.rings.get ((0 : Nat) + (Int.toNat x.fst.Ring))).x.s.x.l.get i3).Value) (V.cons (V.int IntKind.i64 ((x.snd.rings.get ((0 : Nat) + (Int.toNat x.fst.Ring))).x.s.x.l.get i3).Left) V.unit))))) (V.cons (V.int IntKind.i64 (x.snd.rings.get ((0 : Nat) + (Int.toNat x.fst.Ring))).x.s.x.AW) V.unit))) (V.cons (V.int IntKind.u64 (x.snd.rings.get ((0 : Nat) + (Int.toNat x.fst.Ring))).x.most) (V.cons (V.bool (x.snd.rings.get ((0 : Nat) + (Int.toNat x.fst.Ring))).x.closed) V.unit)))))))) <|
 (.need ((true && true) && (Nat.beq x.snd.rings.n x.snd.rings.n)) <|
 (.ret (y2,x.snd))))))))
 (.call con_f1g (x.fst.Reader,(x.snd.rings.get ((0 : Nat) + (Int.toNat x.fst.Ring))).x) fun (y1 : R_f1g) =>
 (.need ((true && true) && (((Nat.beq x.snd.rings.n x.snd.rings.n) && (Nat.blt ((0 : Nat) + (Int.toNat x.fst.Ring)) x.snd.rings.n)) && (!(x.snd.rings.get ((0 : Nat) + (Int.toNat x.fst.Ring))).nil))) <|
 (.side (((fun v : Nat → V=>v = v) (fun i2=>(cond (Nat.beq i2 ((0 : Nat) + (Int.toNat x.fst.Ring))) (V.ptr (Id.loc 13 0) List.nil) (V.Ai (x.snd.rings.get i2).nil (V.cons (V.cons (V.int IntKind.u64 (x.snd.rings.get i2).x.AA.tail) (V.cons (V.A4 41 1 (x.snd.rings.get i2).x.AA.AD.nil (x.snd.rings.get i2).x.AA.AD.n (fun i3=>(V.int IntKind.u64 ((x.snd.rings.get i2).x.AA.AD.get i3)))) V.unit)) (V.cons (V.Ai (x.snd.rings.get i2).x.s.nil (V.cons (V.A4 206 3 (x.snd.rings.get i2).x.s.x.l.nil (x.snd.rings.get i2).x.s.x.l.n (fun i3=>(V.cons (V.int IntKind.u64 ((x.snd.rings.get i2).x.s.x.l.get i3).AO) (V.cons (V.int IntKind.u64 ((x.snd.rings.get i2).x.s.x.l.get i3).Value) (V.cons (V.int IntKind.i64 ((x.snd.rings.get i2).x.s.x.l.get i3).Left) V.unit))))) (V.cons (V.int IntKind.i64 (x.snd.rings.get i2).x.s.x.AW) V.unit))) (V.cons (V.int IntKind.u64 (x.snd.rings.get i2).x.most) (V.cons (V.bool (x.snd.rings.get i2).x.closed) V.unit)))))))) ∧ (((fun v : V=>v = v) (V.cons (V.cons (V.int IntKind.u64 (x.snd.rings.get ((0 : Nat) + (Int.toNat x.fst.Ring))).x.AA.tail) (V.cons (V.A4 41 1 (x.snd.rings.get ((0 : Nat) + (Int.toNat x.fst.Ring))).x.AA.AD.nil (x.snd.rings.get ((0 : Nat) + (Int.toNat x.fst.Ring))).x.AA.AD.n (fun i2=>(V.int IntKind.u64 ((x.snd.rings.get ((0 : Nat) + (Int.toNat x.fst.Ring))).x.AA.AD.get i2)))) V.unit)) (V.cons (V.Ai (x.snd.rings.get ((0 : Nat) + (Int.toNat x.fst.Ring))).x.s.nil (V.cons (V.A4 206 3 (x.snd.rings.get ((0 : Nat) + (Int.toNat x.fst.Ring))).x.s.x.l.nil (x.snd.rings.get ((0 : Nat) + (Int.toNat x.fst.Ring))).x.s.x.l.n (fun i2=>(V.cons (V.int IntKind.u64 ((x.snd.rings.get ((0 : Nat) + (Int.toNat x.fst.Ring))).x.s.x.l.get i2).AO) (V.cons (V.int IntKind.u64 ((x.snd.rings.get ((0 : Nat) + (Int.toNat x.fst.Ring))).x.s.x.l.get i2).Value) (V.cons (V.int IntKind.i64 ((x.snd.rings.get ((0 : Nat) + (Int.toNat x.fst.Ring))).x.s.x.l.get i2).Left) V.unit))))) (V.cons (V.int IntKind.i64 (x.snd.rings.get ((0 : Nat) + (Int.toNat x.fst.Ring))).x.s.x.AW) V.unit))) (V.cons (V.int IntKind.u64 (x.snd.rings.get ((0 : Nat) + (Int.toNat x.fst.Ring))).x.most) (V.cons (V.bool (x.snd.rings.get ((0 : Nat) + (Int.toNat x.fst.Ring))).x.closed) V.unit))))) ∧ ((fun v : V=>v = v) (V.Ai (x.snd.rings.get ((0 : Nat) + (Int.toNat x.fst.Ring))).nil (V.cons (V.cons (V.int IntKind.u64 (x.snd.rings.get ((0 : Nat) + (Int.toNat x.fst.Ring))).x.AA.tail) (V.cons (V.A4 41 1 (x.snd.rings.get ((0 : Nat) + (Int.toNat x.fst.Ring))).x.AA.AD.nil (x.snd.rings.get ((0 : Nat) + (Int.toNat x.fst.Ring))).x.AA.AD.n (fun i2=>(V.int IntKind.u64 ((x.snd.rings.get ((0 : Nat) + (Int.toNat x.fst.Ring))).x.AA.AD.get i2)))) V.unit)) (V.cons (V.Ai (x.snd.rings.get ((0 : Nat) + (Int.toNat x.fst.Ring))).x.s.nil (V.cons (V.A4 206 3 (x.snd.rings.get ((0 : Nat) + (Int.toNat x.fst.Ring))).x.s.x.l.nil (x.snd.rings.get ((0 : Nat) + (Int.toNat x.fst.Ring))).x.s.x.l.n (fun i2=>(V.cons (V.int IntKind.u64 ((x.snd.rings.get ((0 : Nat) + (Int.toNat x.fst.Ring))).x.s.x.l.get i2).AO) (V.cons (V.int IntKind.u64 ((x.snd.rings.get ((0 : Nat) + (Int.toNat x.fst.Ring))).x.s.x.l.get i2).Value) (V.cons (V.int IntKind.i64 ((x.snd.rings.get ((0 : Nat) + (Int.toNat x.fst.Ring))).x.s.x.l.get i2).Left) V.unit))))) (V.cons (V.int IntKind.i64 (x.snd.rings.get ((0 : Nat) + (Int.toNat x.fst.Ring))).x.s.x.AW) V.unit))) (V.cons (V.int IntKind.u64 (x.snd.rings.get ((0 : Nat) + (Int.toNat x.fst.Ring))).x.most) (V.cons (V.bool (x.snd.rings.get ((0 : Nat) + (Int.toNat x.fst.Ring))).x.closed) V.unit)))))))) <|
 (.need ((true && true) && (Nat.beq x.snd.rings.n x.snd.rings.n)) <|
 (.ret (y1,x.snd)))))))))
theorem sd_f16 (x : X_f16) : (tt_f16 x).AH :=
 (TT.sN (TT.sN (TT.sI (TT.sC fun _=>(TT.sI (TT.sN (TT.sS ⟨rfl,⟨rfl,rfl⟩⟩ (TT.sN TT.sR))) (TT.sC fun _=>(TT.sN (TT.sS ⟨rfl,⟨rfl,rfl⟩⟩ (TT.sN TT.sR)))))) (TT.sC fun _=>(TT.sN (TT.sS ⟨rfl,⟨rfl,rfl⟩⟩ (TT.sN TT.sR)))))))
theorem roT_f16 (x : X_f16) : TT.Ro p_f16 (w_f16 x) (tt_f16 x) :=
 (TT.rN (TT.rN (TT.rI (TT.rC fun _=>(TT.rI (TT.rN (TT.rS (TT.rN (TT.rR rfl)))) (TT.rC fun _=>(TT.rN (TT.rS (TT.rN (TT.rR rfl))))))) (TT.rC fun _=>(TT.rN (TT.rS (TT.rN (TT.rR rfl))))))))
def D_f16 : AQ X_f16 R_f16:=.ro (.of tt_f16) (fun y=>(y.1)) (fun y x=>(y,x.2)) fun x y h=>congrArg (fun o=>(y.1,o)) (roT_f16 x y h)
def con_f16 : A3 Tryz.prog :=
 C3 60 J_f16 S_f16 (.of tt_f16) D_f16 (fun y x=>(y,x.2)) (fun y=>V.bool y) 2 1 [.any,.any] (lk mxk lbn sd_f16) (fun x=>⟨(nu_e_TFa : ∀ y,(e_TFa y).CV) (x.2),trivial⟩)
abbrev X_f1r : Type:=TRr
abbrev R_f1r : Type:=Int
abbrev RR_f1r : Type:=Int × TRr
abbrev p_f1r (y : RR_f1r) : TRr:=y.2
abbrev w_f1r (x : X_f1r) : TRr:=x
def J_f1r : A9 Tryz.prog :=
 BF Tryz.prog Tryz.f82 10 [] [] [] [] [.any] [sh_TRr] [] RR_f1r [] fun y=>[(V.int .u64) y.1,e_TRr y.2]
def S_f1r : AM :=
 Ae Tryz.f82 1 1 X_f1r (fun x=>[(V.ptr (.par 0) []),e_TRr x]) fun l=>(d_TRr (at_ l 1))
def tt_f1r (x : X_f1r) : TT Tryz.prog RR_f1r :=
 (.ret (x.AA.tail,x))
theorem sd_f1r (x : X_f1r) : (tt_f1r x).AH :=
 TT.sR
theorem roT_f1r (x : X_f1r) : TT.Ro p_f1r (w_f1r x) (tt_f1r x) :=
 (TT.rR rfl)
def D_f1r : AQ X_f1r R_f1r:=.ro (.of tt_f1r) (fun y=>(y.1)) (fun y x=>(y,x)) fun x y h=>congrArg (fun o=>(y.1,o)) (roT_f1r x y h)
def con_f1r : A3 Tryz.prog :=
 C3 82 J_f1r S_f1r (.of tt_f1r) D_f1r (fun y x=>(y,x)) (fun y=>(V.int .u64) y) 1 1 [.any] (lk mxk lbn sd_f1r) (fun x=>⟨(nu_e_TRr : ∀ y,(e_TRr y).CV) (x),trivial⟩)
structure TSs_L0 where
 l : Ln
 AW : Int
def d_TSs_L0 (v : V) : TSs_L0 :=
 ⟨S3 (fd v 0),dI (fd v 1)⟩
def e_TSs_L0_1 (x : TSs_L0) : V :=
 V.cons ((eLn (.par 1) 206 3) x.l) (V.cons ((V.int .i64) x.AW) (V.unit))
theorem nu_e_TSs_L0_1 (x : TSs_L0) : (e_TSs_L0_1 x).CV:=⟨trivial,trivial,trivial⟩
abbrev X_ft : Type:=Int × TSs_L0 × (Ar TSo)
abbrev R_ft : Type:=(Nat × Nat)
abbrev RR_ft : Type:=(Nat × Nat) × TSs_L0 × (Ar TSo)
abbrev p_ft (y : RR_ft) : TSs_L0 × (Ar TSo):=y.2
abbrev w_ft (x : X_ft) : TSs_L0 × (Ar TSo):=x.2
def J_ft : A9 Tryz.prog :=
 BF Tryz.prog Tryz.f174 18 [] [] [] [.shut 4] [.any] [.any,.any] [] RR_ft [] fun y=>[(ePt 1 3) y.1,e_TSs_L0_1 y.2.1,(Jy 3 e_TSo) y.2.2]
def S_ft : AM :=
 Ae Tryz.f174 2 2 X_ft (fun x=>[(V.ptr (.par 0) []),(V.int .u64) x.1,e_TSs_L0_1 x.2.1,(Jy 3 e_TSo) x.2.2]) fun l=>(dI (at_ l 1),d_TSs_L0 (at_ l 2),(Pz d_TSo) (at_ l 3))
def tt_ft (x : X_ft) : TT Tryz.prog RR_ft :=
 (.need (!(AX (IntKind.u64.wrap ((x.snd.fst.l.n : Nat) : Int)) 0)) <|
 (.need (A0 (Int.tmod x.fst (IntKind.u64.wrap ((x.snd.fst.l.n : Nat) : Int))) x.snd.fst.l.n) <|
 (.ret ((((0 : Nat) + (Int.toNat (Int.tmod x.fst (IntKind.u64.wrap ((x.snd.fst.l.n : Nat) : Int))))),x.snd.fst.l.n),(x.snd.fst,x.snd.snd)))))
theorem sd_ft (x : X_ft) : (tt_ft x).AH :=
 (TT.sN (TT.sN TT.sR))
theorem roT_ft (x : X_ft) : TT.Ro p_ft (w_ft x) (tt_ft x) :=
 (TT.rN (TT.rN (TT.rR rfl)))
def D_ft : AQ X_ft R_ft:=.ro (.of tt_ft) (fun y=>(y.1)) (fun y x=>(y,x.2)) fun x y h=>congrArg (fun o=>(y.1,o)) (roT_ft x y h)
def con_ft : A3 Tryz.prog :=
 C3 174 J_ft S_ft (.of tt_ft) D_ft (fun y x=>(y,x.2)) (fun y=>(ePt 1 3) y) 2 2 [.any,.any] (lk mxk lbn sd_ft) (fun x=>⟨(nu_e_TSs_L0_1 : ∀ y,(e_TSs_L0_1 y).CV) (x.2.1),(fun _ _=>(nu_e_TSo) _ : ∀ y,((Jy 3 e_TSo) y).CV) (x.2.2),trivial⟩)
abbrev X_f1v : Type:=Int × TSs
abbrev R_f1v : Type:=Bool
abbrev RR_f1v : Type:=Bool × TSs
abbrev p_f1v (y : RR_f1v) : TSs:=y.2
abbrev w_f1v (x : X_f1v) : TSs:=x.2
def J_f1v : A9 Tryz.prog :=
 BF Tryz.prog Tryz.f149 22 [] [] [(1,[.Ir (.par 0) [.CI 0 0] 14])] [.back (.loc 14 0)] [.any] [sh_TSs] [con_ft,con_f2u] RR_f1v [(0,[⟨.loc 14 0,.par 0,[.CI 0 0],none,none⟩])] fun y=>[V.bool y.1,e_TSs y.2]
def S_f1v : AM :=
 Ae Tryz.f149 2 1 X_f1v (fun x=>[(V.ptr (.par 0) []),(V.int .u64) x.1,e_TSs x.2]) fun l=>(dI (at_ l 1),d_TSs (at_ l 2))
def tt_f1v (x : X_f1v) : TT Tryz.prog RR_f1v :=
 (.ite (BS x.fst 4611686018427387904)
 (.call con_ft (x.fst,((TSs_L0.mk (Ln.mk x.snd.l.nil x.snd.l.n) x.snd.AW),(Ar.mk x.snd.l.n x.snd.l.get))) fun (y1 : R_ft) =>
 (.need ((Nat.beq x.snd.l.n y1.snd) && true) <|
 (.call con_f2u x.fst fun (y2 : R_f2u) =>
 (.need ((true && true) && (Nat.beq x.snd.l.n x.snd.l.n)) <|
 (.ret ((AX (x.snd.l.get y1.fst).AO y2),x.snd))))))
 (.need ((true && true) && (Nat.beq x.snd.l.n x.snd.l.n)) <|
 (.ret (false,x.snd))))
theorem sd_f1v (x : X_f1v) : (tt_f1v x).AH :=
 (TT.sI (TT.sC fun _=>(TT.sN (TT.sC fun _=>(TT.sN TT.sR)))) (TT.sN TT.sR))
theorem roT_f1v (x : X_f1v) : TT.Ro p_f1v (w_f1v x) (tt_f1v x) :=
 (TT.rI (TT.rC fun _=>(TT.rN (TT.rC fun _=>(TT.rN (TT.rR rfl))))) (TT.rN (TT.rR rfl)))
def D_f1v : AQ X_f1v R_f1v:=.ro (.of tt_f1v) (fun y=>(y.1)) (fun y x=>(y,x.2)) fun x y h=>congrArg (fun o=>(y.1,o)) (roT_f1v x y h)
def con_f1v : A3 Tryz.prog :=
 C3 149 J_f1v S_f1v (.of tt_f1v) D_f1v (fun y x=>(y,x.2)) (fun y=>V.bool y) 2 1 [.any,.any] (lk mxk lbn sd_f1v) (fun x=>⟨(nu_e_TSs : ∀ y,(e_TSs y).CV) (x.2),trivial⟩)
abbrev X_f29 : Type:=Int × TRr
abbrev R_f29 : Type:=Bool
abbrev RR_f29 : Type:=Bool × TRr
abbrev p_f29 (y : RR_f29) : TRr:=y.2
abbrev w_f29 (x : X_f29) : TRr:=x.2
def J_f29 : A9 Tryz.prog :=
 BF Tryz.prog Tryz.f107 24 [] [] [] [.back (.loc 20 0)] [.any] [sh_TRr] [con_f1v] RR_f29 [] fun y=>[V.bool y.1,e_TRr y.2]
def S_f29 : AM :=
 Ae Tryz.f107 2 1 X_f29 (fun x=>[(V.ptr (.par 0) []),(V.int .u64) x.1,e_TRr x.2]) fun l=>(dI (at_ l 1),d_TRr (at_ l 2))
def tt_f29 (x : X_f29) : TT Tryz.prog RR_f29 :=
 (.ite (BS x.fst x.snd.AA.tail)
 (.need (true && (!x.snd.s.nil)) <|
 (.call con_f1v (x.fst,x.snd.s.x) fun (y1 : R_f1v) =>
 (.need ((true && true) && (!x.snd.s.nil)) <|
 (.side ((fun v : V=>v = v) (V.cons (V.A4 206 3 x.snd.s.x.l.nil x.snd.s.x.l.n (fun i2=>(V.cons (V.int IntKind.u64 (x.snd.s.x.l.get i2).AO) (V.cons (V.int IntKind.u64 (x.snd.s.x.l.get i2).Value) (V.cons (V.int IntKind.i64 (x.snd.s.x.l.get i2).Left) V.unit))))) (V.cons (V.int IntKind.i64 x.snd.s.x.AW) V.unit))) <|
 (.ret (y1,x.snd))))))
 (.ret (false,x.snd)))
theorem sd_f29 (x : X_f29) : (tt_f29 x).AH :=
 (TT.sI (TT.sN (TT.sC fun _=>(TT.sN (TT.sS rfl TT.sR)))) TT.sR)
theorem roT_f29 (x : X_f29) : TT.Ro p_f29 (w_f29 x) (tt_f29 x) :=
 (TT.rI (TT.rN (TT.rC fun _=>(TT.rN (TT.rS (TT.rR rfl))))) (TT.rR rfl))
def D_f29 : AQ X_f29 R_f29:=.ro (.of tt_f29) (fun y=>(y.1)) (fun y x=>(y,x.2)) fun x y h=>congrArg (fun o=>(y.1,o)) (roT_f29 x y h)
def con_f29 : A3 Tryz.prog :=
 C3 107 J_f29 S_f29 (.of tt_f29) D_f29 (fun y x=>(y,x.2)) (fun y=>V.bool y) 2 1 [.any,.any] (lk mxk lbn sd_f29) (fun x=>⟨(nu_e_TRr : ∀ y,(e_TRr y).CV) (x.2),trivial⟩)
abbrev X_fq : Type:=Int × TRr
abbrev R_fq : Type:=Int
abbrev RR_fq : Type:=Int × TRr
abbrev p_fq (y : RR_fq) : TRr:=y.2
abbrev w_fq (x : X_fq) : TRr:=x.2
def J_fq : A9 Tryz.prog :=
 BF Tryz.prog Tryz.f83 23 [] [] [] [.back (.loc 19 0)] [.any] [sh_TRr] [con_fw] RR_fq [] fun y=>[(V.int .u64) y.1,e_TRr y.2]
def S_fq : AM :=
 Ae Tryz.f83 2 1 X_fq (fun x=>[(V.ptr (.par 0) []),(V.int .i64) x.1,e_TRr x.2]) fun l=>(dI (at_ l 1),d_TRr (at_ l 2))
structure X_fq_3 where
 Ed : Int
 Ah : TRr
def S_fq_3 : AM :=
 Ad Tryz.f83 3 (an [0,1]) [sh_TRr] [] X_fq_3 (fun x=>[(V.ptr (.par 0) []),(V.int .i64) x.Ed,e_TRr x.Ah]) fun l=>⟨dI (at_ l 1),d_TRr (at_ l 2)⟩
abbrev w_fq_3 (x : X_fq_3) : TRr:=(x.Ah)
def tt_fq_3 (x : X_fq_3) : TT Tryz.prog RR_fq :=
 (.need (A0 x.Ed x.Ah.AA.AD.n) <|
 (.need ((Nat.beq x.Ah.AA.AD.n x.Ah.AA.AD.n) && true) <|
 (.need ((true && true) && (Nat.beq x.Ah.AA.AD.n x.Ah.AA.AD.n)) <|
 (.ret ((x.Ah.AA.AD.get ((0 : Nat) + (Int.toNat x.Ed))),x.Ah)))))
theorem sd_fq_3 (x : X_fq_3) : (tt_fq_3 x).AH :=
 (TT.sN (TT.sN (TT.sN TT.sR)))
theorem roT_fq_3 (x : X_fq_3) : TT.Ro p_fq (w_fq_3 x) (tt_fq_3 x) :=
 (TT.rN (TT.rN (TT.rN (TT.rR rfl))))
def D_fq_3 : AQ X_fq_3 RR_fq:=.of tt_fq_3
theorem ok_fq_3 : AV J_fq S_fq_3 D_fq_3 :=
 lk mxk lbn sd_fq_3
theorem ro_fq_3 : ∀ x y,D_fq_3.rel x y → p_fq y = w_fq_3 x :=
 roT_fq_3 
def tt_fq (x : X_fq) : TT Tryz.prog RR_fq :=
 (.call con_fw (x.fst,x.snd.AA) fun (y1 : R_fw) =>
 (.ite (!y1)
 (.ret (0,x.snd))
 (.jump S_fq_3 D_fq_3 (X_fq_3.mk x.fst x.snd))))
theorem sd_fq (x : X_fq) : (tt_fq x).AH :=
 (TT.sC fun _=>(TT.sI TT.sR TT.sJ))
theorem roT_fq (x : X_fq) : TT.Ro p_fq (w_fq x) (tt_fq x) :=
 (TT.rC fun _=>(TT.rI (TT.rR rfl) (TT.rJ (ro_fq_3 _))))
def D_fq : AQ X_fq R_fq:=.ro (.of tt_fq) (fun y=>(y.1)) (fun y x=>(y,x.2)) fun x y h=>congrArg (fun o=>(y.1,o)) (roT_fq x y h)
def con_fq : A3 Tryz.prog :=
 C3 83 J_fq S_fq (.of tt_fq) D_fq (fun y x=>(y,x.2)) (fun y=>(V.int .u64) y) 2 1 [.any,.any] (lk mxk (lbc ok_fq_3 rfl lbn) sd_fq) (fun x=>⟨(nu_e_TRr : ∀ y,(e_TRr y).CV) (x.2),trivial⟩)
abbrev X_f3a : Type:=Int
abbrev R_f3a : Type:=Int
def J_f3a : A9 Tryz.prog :=
 BF Tryz.prog Tryz.f175 6 [] [] [] [] [.any] [] [] R_f3a [] fun y=>[(V.int .u64) y]
def S_f3a : AM :=
 Ae Tryz.f175 1 0 X_f3a (fun x=>[(V.int .u64) x]) fun l=>(dI (at_ l 0))
def tt_f3a (x : X_f3a) : TT Tryz.prog R_f3a :=
 (.ret (IntKind.u64.wrap ((IntKind.u64.wrap ((2 : Int) * x)) + 1)))
theorem sd_f3a (x : X_f3a) : (tt_f3a x).AH :=
 TT.sR
def D_f3a : AQ X_f3a R_f3a:=.of tt_f3a
def con_f3a : A3 Tryz.prog :=
 BZ 175 J_f3a S_f3a D_f3a 1 0 [.any] (lk mxk lbn sd_f3a)
abbrev X_fn : Type:=Int × Int × TSs
abbrev R_fn : Type:=Int
abbrev RR_fn : Type:=Int × TSs
abbrev p_fn (y : RR_fn) : TSs:=y.2
abbrev w_fn (x : X_fn) : TSs:=x.2.2
def J_fn : A9 Tryz.prog :=
 BF Tryz.prog Tryz.f176 51 [] [(7,[.back (.loc 26 0)]),(10,[.back (.loc 26 0)]),(11,[.back (.loc 26 0)])] [(5,[.Ir (.par 0) [.CI 0 0] 26])] [.back (.loc 26 0)] [.any] [sh_TSs] [con_ft,con_f3a] RR_fn [(0,[⟨.loc 26 0,.par 0,[.CI 0 0],none,none⟩]),(5,[⟨.loc 26 0,.par 0,[.CI 0 0],none,none⟩])] fun y=>[(V.int .i64) y.1,e_TSs y.2]
def S_fn : AM :=
 Ae Tryz.f176 3 1 X_fn (fun x=>[(V.ptr (.par 0) []),(V.int .i64) x.1,(V.int .u64) x.2.1,e_TSs x.2.2]) fun l=>(dI (at_ l 1),dI (at_ l 2),d_TSs (at_ l 3))
structure X_fn_5 where
 Ed : Int
 Jf : Int
 Ah : TSs
def S_fn_5 : AM :=
 Ad Tryz.f176 5 (an [0,1,2]) [sh_TSs] [] X_fn_5 (fun x=>[(V.ptr (.par 0) []),(V.int .i64) x.Ed,(V.int .u64) x.Jf,e_TSs x.Ah]) fun l=>⟨dI (at_ l 1),dI (at_ l 2),d_TSs (at_ l 3)⟩
abbrev w_fn_5 (x : X_fn_5) : TSs:=(x.Ah)
def tt_fn_5 (x : X_fn_5) : TT Tryz.prog RR_fn :=
 (.call con_ft (x.Jf,((TSs_L0.mk (Ln.mk x.Ah.l.nil x.Ah.l.n) x.Ah.AW),(Ar.mk x.Ah.l.n x.Ah.l.get))) fun (y1 : R_ft) =>
 (.need ((Nat.beq x.Ah.l.n y1.snd) && true) <|
 (.call con_f3a x.Jf fun (y2 : R_f3a) =>
 (.ite (BS (x.Ah.l.get y1.fst).AO y2)
 (.need ((true && true) && (Nat.beq x.Ah.l.n x.Ah.l.n)) <|
 (.ret (9,x.Ah)))
 (.need ((Nat.beq x.Ah.l.n y1.snd) && true) <|
 (.call con_f3a x.Jf fun (y3 : R_f3a) =>
 (.ite (BS y3 (x.Ah.l.get y1.fst).AO)
 (.need ((true && true) && (Nat.beq x.Ah.l.n x.Ah.l.n)) <|
 (.ret (11,x.Ah)))
 (.need ((Nat.beq x.Ah.l.n y1.snd) && true) <|
 (.need (Bd 0 x.Ed) <|
 (.ite (AX (Vm.bits .and IntKind.i64 (shr IntKind.i64 (x.Ah.l.get y1.fst).Left x.Ed) 1) 0)
 (.need ((true && true) && (Nat.beq x.Ah.l.n x.Ah.l.n)) <|
 (.ret (11,x.Ah)))
 (.need ((true && true) && (Nat.beq x.Ah.l.n x.Ah.l.n)) <|
 (.ret (0,x.Ah)))))))))))))
theorem sd_fn_5 (x : X_fn_5) : (tt_fn_5 x).AH :=
 (TT.sC fun _=>(TT.sN (TT.sC fun _=>(TT.sI (TT.sN TT.sR) (TT.sN (TT.sC fun _=>(TT.sI (TT.sN TT.sR) (TT.sN (TT.sN (TT.sI (TT.sN TT.sR) (TT.sN TT.sR)))))))))))
theorem roT_fn_5 (x : X_fn_5) : TT.Ro p_fn (w_fn_5 x) (tt_fn_5 x) :=
 (TT.rC fun _=>(TT.rN (TT.rC fun _=>(TT.rI (TT.rN (TT.rR rfl)) (TT.rN (TT.rC fun _=>(TT.rI (TT.rN (TT.rR rfl)) (TT.rN (TT.rN (TT.rI (TT.rN (TT.rR rfl)) (TT.rN (TT.rR rfl))))))))))))
def D_fn_5 : AQ X_fn_5 RR_fn:=.of tt_fn_5
theorem ok_fn_5 : AV J_fn S_fn_5 D_fn_5 :=
 lk mxk lbn sd_fn_5
theorem ro_fn_5 : ∀ x y,D_fn_5.rel x y → p_fn y = w_fn_5 x :=
 roT_fn_5 
def tt_fn (x : X_fn) : TT Tryz.prog RR_fn :=
 (.ite (Bd 4611686018427387904 x.snd.fst)
 (.ret (1,x.snd.snd))
 (.ite (BS x.fst 0)
 (.ret (1,x.snd.snd))
 (.ite (Bd x.snd.snd.AW x.fst)
 (.ret (1,x.snd.snd))
 (.jump S_fn_5 D_fn_5 (X_fn_5.mk x.fst x.snd.fst x.snd.snd)))))
theorem sd_fn (x : X_fn) : (tt_fn x).AH :=
 (TT.sI TT.sR (TT.sI TT.sR (TT.sI TT.sR TT.sJ)))
theorem roT_fn (x : X_fn) : TT.Ro p_fn (w_fn x) (tt_fn x) :=
 (TT.rI (TT.rR rfl) (TT.rI (TT.rR rfl) (TT.rI (TT.rR rfl) (TT.rJ (ro_fn_5 _)))))
def D_fn : AQ X_fn R_fn:=.ro (.of tt_fn) (fun y=>(y.1)) (fun y x=>(y,x.2.2)) fun x y h=>congrArg (fun o=>(y.1,o)) (roT_fn x y h)
def con_fn : A3 Tryz.prog :=
 C3 176 J_fn S_fn (.of tt_fn) D_fn (fun y x=>(y,x.2.2)) (fun y=>(V.int .i64) y) 3 1 [.any,.any,.any] (lk mxk (lbc ok_fn_5 rfl lbn) sd_fn) (fun x=>⟨(nu_e_TSs : ∀ y,(e_TSs y).CV) (x.2.2),trivial⟩)
abbrev X_f23 : Type:=Int × Int × TSs
abbrev R_f23 : Type:=Bool
abbrev RR_f23 : Type:=Bool × TSs
abbrev p_f23 (y : RR_f23) : TSs:=y.2
abbrev w_f23 (x : X_f23) : TSs:=x.2.2
def J_f23 : A9 Tryz.prog :=
 BF Tryz.prog Tryz.f150 12 [] [] [] [] [.any] [sh_TSs] [con_fn] RR_f23 [] fun y=>[V.bool y.1,e_TSs y.2]
def S_f23 : AM :=
 Ae Tryz.f150 3 1 X_f23 (fun x=>[(V.ptr (.par 0) []),(V.int .i64) x.1,(V.int .u64) x.2.1,e_TSs x.2.2]) fun l=>(dI (at_ l 1),dI (at_ l 2),d_TSs (at_ l 3))
def tt_f23 (x : X_f23) : TT Tryz.prog RR_f23 :=
 (.call con_fn x fun (y1 : R_fn) =>
 (.ret ((AX y1 0),x.snd.snd)))
theorem sd_f23 (x : X_f23) : (tt_f23 x).AH :=
 (TT.sC fun _=>TT.sR)
theorem roT_f23 (x : X_f23) : TT.Ro p_f23 (w_f23 x) (tt_f23 x) :=
 (TT.rC fun _=>(TT.rR rfl))
def D_f23 : AQ X_f23 R_f23:=.ro (.of tt_f23) (fun y=>(y.1)) (fun y x=>(y,x.2.2)) fun x y h=>congrArg (fun o=>(y.1,o)) (roT_f23 x y h)
def con_f23 : A3 Tryz.prog :=
 C3 150 J_f23 S_f23 (.of tt_f23) D_f23 (fun y x=>(y,x.2.2)) (fun y=>V.bool y) 3 1 [.any,.any,.any] (lk mxk lbn sd_f23) (fun x=>⟨(nu_e_TSs : ∀ y,(e_TSs y).CV) (x.2.2),trivial⟩)
abbrev X_f2g : Type:=Int × Int × TRr
abbrev R_f2g : Type:=Bool
abbrev RR_f2g : Type:=Bool × TRr
abbrev p_f2g (y : RR_f2g) : TRr:=y.2
abbrev w_f2g (x : X_f2g) : TRr:=x.2.2
def J_f2g : A9 Tryz.prog :=
 BF Tryz.prog Tryz.f108 37 [] [] [] [.back (.loc 32 0),.back (.loc 22 0)] [.any] [sh_TRr] [con_fw,con_f23] RR_f2g [] fun y=>[V.bool y.1,e_TRr y.2]
def S_f2g : AM :=
 Ae Tryz.f108 3 1 X_f2g (fun x=>[(V.ptr (.par 0) []),(V.int .i64) x.1,(V.int .u64) x.2.1,e_TRr x.2.2]) fun l=>(dI (at_ l 1),dI (at_ l 2),d_TRr (at_ l 3))
def tt_f2g (x : X_f2g) : TT Tryz.prog RR_f2g :=
 (.call con_fw (x.fst,x.snd.snd.AA) fun (y1 : R_fw) =>
 (.ite y1
 (.need (A0 x.fst x.snd.snd.AA.AD.n) <|
 (.need ((Nat.beq x.snd.snd.AA.AD.n x.snd.snd.AA.AD.n) && true) <|
 (.ite (BS x.snd.fst (x.snd.snd.AA.AD.get ((0 : Nat) + (Int.toNat x.fst))))
 (.need (true && (!x.snd.snd.s.nil)) <|
 (.call con_f23 (x.fst,(x.snd.fst,x.snd.snd.s.x)) fun (y2 : R_f23) =>
 (.need ((true && true) && (!x.snd.snd.s.nil)) <|
 (.side ((fun v : V=>v = v) (V.cons (V.A4 206 3 x.snd.snd.s.x.l.nil x.snd.snd.s.x.l.n (fun i3=>(V.cons (V.int IntKind.u64 (x.snd.snd.s.x.l.get i3).AO) (V.cons (V.int IntKind.u64 (x.snd.snd.s.x.l.get i3).Value) (V.cons (V.int IntKind.i64 (x.snd.snd.s.x.l.get i3).Left) V.unit))))) (V.cons (V.int IntKind.i64 x.snd.snd.s.x.AW) V.unit))) <|
 (.need ((true && true) && (Nat.beq x.snd.snd.AA.AD.n x.snd.snd.AA.AD.n)) <|
 (.ret (y2,x.snd.snd)))))))
 (.need ((true && true) && (Nat.beq x.snd.snd.AA.AD.n x.snd.snd.AA.AD.n)) <|
 (.ret (false,x.snd.snd))))))
 (.ret (false,x.snd.snd))))
theorem sd_f2g (x : X_f2g) : (tt_f2g x).AH :=
 (TT.sC fun _=>(TT.sI (TT.sN (TT.sN (TT.sI (TT.sN (TT.sC fun _=>(TT.sN (TT.sS rfl (TT.sN TT.sR))))) (TT.sN TT.sR)))) TT.sR))
theorem roT_f2g (x : X_f2g) : TT.Ro p_f2g (w_f2g x) (tt_f2g x) :=
 (TT.rC fun _=>(TT.rI (TT.rN (TT.rN (TT.rI (TT.rN (TT.rC fun _=>(TT.rN (TT.rS (TT.rN (TT.rR rfl)))))) (TT.rN (TT.rR rfl))))) (TT.rR rfl)))
def D_f2g : AQ X_f2g R_f2g:=.ro (.of tt_f2g) (fun y=>(y.1)) (fun y x=>(y,x.2.2)) fun x y h=>congrArg (fun o=>(y.1,o)) (roT_f2g x y h)
def con_f2g : A3 Tryz.prog :=
 C3 108 J_f2g S_f2g (.of tt_f2g) D_f2g (fun y x=>(y,x.2.2)) (fun y=>V.bool y) 3 1 [.any,.any,.any] (lk mxk lbn sd_f2g) (fun x=>⟨(nu_e_TRr : ∀ y,(e_TRr y).CV) (x.2.2),trivial⟩)
abbrev X_f1d : Type:=TEv × TAk × TFa
abbrev R_f1d : Type:=Bool
abbrev RR_f1d : Type:=Bool × TFa
abbrev p_f1d (y : RR_f1d) : TFa:=y.2
abbrev w_f1d (x : X_f1d) : TFa:=x.2.2
def J_f1d : A9 Tryz.prog :=
 BF Tryz.prog Tryz.f62 65 [(4,3),(5,3)] [] [(1,[.Ir (.par 0) [.CI 2 3] 11])] [.back (.loc 15 0),.back (.loc 11 0)] [.any] [sh_TFa] [con_f1g,con_f29,con_f1q,con_f2g,con_fq,con_f1r] RR_f1d [(0,[⟨.loc 11 0,.par 0,[.CI 2 3],none,none⟩])] fun y=>[V.bool y.1,e_TFa y.2]
def S_f1d : AM :=
 Ae Tryz.f62 3 1 X_f1d (fun x=>[(V.ptr (.par 0) []),e_TEv x.1,e_TAk x.2.1,e_TFa x.2.2]) fun l=>(d_TEv (at_ l 1),d_TAk (at_ l 2),d_TFa (at_ l 3))
def tt_f1d (x : X_f1d) : TT Tryz.prog RR_f1d :=
 (.need (A0 x.fst.Ring x.snd.snd.rings.n) <|
 (.need (((Nat.beq x.snd.snd.rings.n x.snd.snd.rings.n) && true) && (!(x.snd.snd.rings.get ((0 : Nat) + (Int.toNat x.fst.Ring))).nil)) <|
 (.ite (AX x.fst.Kind 1)
 (.call con_f1q (x.snd.snd.rings.get ((0 : Nat) + (Int.toNat x.fst.Ring))).x fun (y1 : R_f1q) =>
 (.ite (!y1)
 (.call con_f1r (x.snd.snd.rings.get ((0 : Nat) + (Int.toNat x.fst.Ring))).x fun (y2 : R_f1r) =>
 (.need ((true && true) && (((Nat.beq x.snd.snd.rings.n x.snd.snd.rings.n) && (Nat.blt ((0 : Nat) + (Int.toNat x.fst.Ring)) x.snd.snd.rings.n)) && (!(x.snd.snd.rings.get ((0 : Nat) + (Int.toNat x.fst.Ring))).nil))) <|
 (.side (((fun v : Nat → V=>v = v) (fun i3=>(cond (Nat.beq i3 ((0 : Nat) + (Int.toNat x.fst.Ring))) (V.ptr (Id.loc 15 0) List.nil) (V.Ai (x.snd.snd.rings.get i3).nil (V.cons (V.cons (V.int IntKind.u64 (x.snd.snd.rings.get i3).x.AA.tail) (V.cons (V.A4 41 1 (x.snd.snd.rings.get i3).x.AA.AD.nil (x.snd.snd.rings.get i3).x.AA.AD.n (fun i4=>(V.int IntKind.u64 ((x.snd.snd.rings.get i3).x.AA.AD.get i4)))) V.unit)) (V.cons (V.Ai (x.snd.snd.rings.get i3).x.s.nil (V.cons (V.A4 206 3 (x.snd.snd.rings.get i3).x.s.x.l.nil (x.snd.snd.rings.get i3).x.s.x.l.n (fun i4=>(V.cons (V.int IntKind.u64 ((x.snd.snd.rings.get i3).x.s.x.l.get i4).AO) (V.cons (V.int IntKind.u64 ((x.snd.snd.rings.get i3).x.s.x.l.get i4).Value) (V.cons (V.int IntKind.i64 ((x.snd.snd.rings.get i3).x.s.x.l.get i4).Left) V.unit))))) (V.cons (V.int IntKind.i64 (x.snd.snd.rings.get i3).x.s.x.AW) V.unit))) (V.cons (V.int IntKind.u64 (x.snd.snd.rings.get i3).x.most) (V.cons (V.bool (x.snd.snd.rings.get i3).x.closed) V.unit)))))))) ∧ (((fun v : V=>v = v) (V.cons (V.cons (V.int IntKind.u64 (x.snd.snd.rings.get ((0 : Nat) + (Int.toNat x.fst.Ring))).x.AA.tail) (V.cons (V.A4 41 1 (x.snd.snd.rings.get ((0 : Nat) + (Int.toNat x.fst.Ring))).x.AA.AD.nil (x.snd.snd.rings.get ((0 : Nat) + (Int.toNat x.fst.Ring))).x.AA.AD.n (fun i3=>(V.int IntKind.u64 ((x.snd.snd.rings.get ((0 : Nat) + (Int.toNat x.fst.Ring))).x.AA.AD.get i3)))) V.unit)) (V.cons (V.Ai (x.snd.snd.rings.get ((0 : Nat) + (Int.toNat x.fst.Ring))).x.s.nil (V.cons (V.A4 206 3 (x.snd.snd.rings.get ((0 : Nat) + (Int.toNat x.fst.Ring))).x.s.x.l.nil (x.snd.snd.rings.get ((0 : Nat) + (Int.toNat x.fst.Ring))).x.s.x.l.n (fun i3=>(V.cons (V.int IntKind.u64 ((x.snd.snd.rings.get ((0 : Nat) + (Int.toNat x.fst.Ring))).x.s.x.l.get i3).AO) (V.cons (V.int IntKind.u64 ((x.snd.snd.rings.get ((0 : Nat) + (Int.toNat x.fst.Ring))).x.s.x.l.get i3).Value) (V.cons (V.int IntKind.i64 ((x.snd.snd.rings.get ((0 : Nat) + (Int.toNat x.fst.Ring))).x.s.x.l.get i3).Left) V.unit))))) (V.cons (V.int IntKind.i64 (x.snd.snd.rings.get ((0 : Nat) + (Int.toNat x.fst.Ring))).x.s.x.AW) V.unit))) (V.cons (V.int IntKind.u64 (x.snd.snd.rings.get ((0 : Nat) + (Int.toNat x.fst.Ring))).x.most) (V.cons (V.bool (x.snd.snd.rings.get ((0 : Nat) + (Int.toNat x.fst.Ring))).x.closed) V.unit))))) ∧ ((fun v : V=>v = v) (V.Ai (x.snd.snd.rings.get ((0 : Nat) + (Int.toNat x.fst.Ring))).nil (V.cons (V.cons (V.int IntKind.u64 (x.snd.snd.rings.get ((0 : Nat) + (Int.toNat x.fst.Ring))).x.AA.tail) (V.cons (V.A4 41 1 (x.snd.snd.rings.get ((0 : Nat) + (Int.toNat x.fst.Ring))).x.AA.AD.nil (x.snd.snd.rings.get ((0 : Nat) + (Int.toNat x.fst.Ring))).x.AA.AD.n (fun i3=>(V.int IntKind.u64 ((x.snd.snd.rings.get ((0 : Nat) + (Int.toNat x.fst.Ring))).x.AA.AD.get i3)))) V.unit)) (V.cons (V.Ai (x.snd.snd.rings.get ((0 : Nat) + (Int.toNat x.fst.Ring))).x.s.nil (V.cons (V.A4 206 3 (x.snd.snd.rings.get ((0 : Nat) + (Int.toNat x.fst.Ring))).x.s.x.l.nil (x.snd.snd.rings.get ((0 : Nat) + (Int.toNat x.fst.Ring))).x.s.x.l.n (fun i3=>(V.cons (V.int IntKind.u64 ((x.snd.snd.rings.get ((0 : Nat) + (Int.toNat x.fst.Ring))).x.s.x.l.get i3).AO) (V.cons (V.int IntKind.u64 ((x.snd.snd.rings.get ((0 : Nat) + (Int.toNat x.fst.Ring))).x.s.x.l.get i3).Value) (V.cons (V.int IntKind.i64 ((x.snd.snd.rings.get ((0 : Nat) + (Int.toNat x.fst.Ring))).x.s.x.l.get i3).Left) V.unit))))) (V.cons (V.int IntKind.i64 (x.snd.snd.rings.get ((0 : Nat) + (Int.toNat x.fst.Ring))).x.s.x.AW) V.unit))) (V.cons (V.int IntKind.u64 (x.snd.snd.rings.get ((0 : Nat) + (Int.toNat x.fst.Ring))).x.most) (V.cons (V.bool (x.snd.snd.rings.get ((0 : Nat) + (Int.toNat x.fst.Ring))).x.closed) V.unit)))))))) <|
 (.need ((true && true) && (Nat.beq x.snd.snd.rings.n x.snd.snd.rings.n)) <|
 (.ret ((AX x.fst.AG y2),x.snd.snd))))))
 (.need ((true && true) && (((Nat.beq x.snd.snd.rings.n x.snd.snd.rings.n) && (Nat.blt ((0 : Nat) + (Int.toNat x.fst.Ring)) x.snd.snd.rings.n)) && (!(x.snd.snd.rings.get ((0 : Nat) + (Int.toNat x.fst.Ring))).nil))) <|
 (.side (((fun v : Nat → V=>v = v) (fun i2=>(cond (Nat.beq i2 ((0 : Nat) + (Int.toNat x.fst.Ring))) (V.ptr (Id.loc 15 0) List.nil) (V.Ai (x.snd.snd.rings.get i2).nil (V.cons (V.cons (V.int IntKind.u64 (x.snd.snd.rings.get i2).x.AA.tail) (V.cons (V.A4 41 1 (x.snd.snd.rings.get i2).x.AA.AD.nil (x.snd.snd.rings.get i2).x.AA.AD.n (fun i3=>(V.int IntKind.u64 ((x.snd.snd.rings.get i2).x.AA.AD.get i3)))) V.unit)) (V.cons (V.Ai (x.snd.snd.rings.get i2).x.s.nil (V.cons (V.A4 206 3 (x.snd.snd.rings.get i2).x.s.x.l.nil (x.snd.snd.rings.get i2).x.s.x.l.n (fun i3=>(V.cons (V.int IntKind.u64 ((x.snd.snd.rings.get i2).x.s.x.l.get i3).AO) (V.cons (V.int IntKind.u64 ((x.snd.snd.rings.get i2).x.s.x.l.get i3).Value) (V.cons (V.int IntKind.i64 ((x.snd.snd.rings.get i2).x.s.x.l.get i3).Left) V.unit))))) (V.cons (V.int IntKind.i64 (x.snd.snd.rings.get i2).x.s.x.AW) V.unit))) (V.cons (V.int IntKind.u64 (x.snd.snd.rings.get i2).x.most) (V.cons (V.bool (x.snd.snd.rings.get i2).x.closed) V.unit)))))))) ∧ (((fun v : V=>v = v) (V.cons (V.cons (V.int IntKind.u64 (x.snd.snd.rings.get ((0 : Nat) + (Int.toNat x.fst.Ring))).x.AA.tail) (V.cons (V.A4 41 1 (x.snd.snd.rings.get ((0 : Nat) + (Int.toNat x.fst.Ring))).x.AA.AD.nil (x.snd.snd.rings.get ((0 : Nat) + (Int.toNat x.fst.Ring))).x.AA.AD.n (fun i2=>(V.int IntKind.u64 ((x.snd.snd.rings.get ((0 : Nat) + (Int.toNat x.fst.Ring))).x.AA.AD.get i2)))) V.unit)) (V.cons (V.Ai (x.snd.snd.rings.get ((0 : Nat) + (Int.toNat x.fst.Ring))).x.s.nil (V.cons (V.A4 206 3 (x.snd.snd.rings.get ((0 : Nat) + (Int.toNat x.fst.Ring))).x.s.x.l.nil (x.snd.snd.rings.get ((0 : Nat) + (Int.toNat x.fst.Ring))).x.s.x.l.n (fun i2=>(V.cons (V.int IntKind.u64 ((x.snd.snd.rings.get ((0 : Nat) + (Int.toNat x.fst.Ring))).x.s.x.l.get i2).AO) (V.cons (V.int IntKind.u64 ((x.snd.snd.rings.get ((0 : Nat) + (Int.toNat x.fst.Ring))).x.s.x.l.get i2).Value) (V.cons (V.int IntKind.i64 ((x.snd.snd.rings.get ((0 : Nat) + (Int.toNat x.fst.Ring))).x.s.x.l.get i2).Left) V.unit))))) (V.cons (V.int IntKind.i64 (x.snd.snd.rings.get ((0 : Nat) + (Int.toNat x.fst.Ring))).x.s.x.AW) V.unit))) (V.cons (V.int IntKind.u64 (x.snd.snd.rings.get ((0 : Nat) + (Int.toNat x.fst.Ring))).x.most) (V.cons (V.bool (x.snd.snd.rings.get ((0 : Nat) + (Int.toNat x.fst.Ring))).x.closed) V.unit))))) ∧ ((fun v : V=>v = v) (V.Ai (x.snd.snd.rings.get ((0 : Nat) + (Int.toNat x.fst.Ring))).nil (V.cons (V.cons (V.int IntKind.u64 (x.snd.snd.rings.get ((0 : Nat) + (Int.toNat x.fst.Ring))).x.AA.tail) (V.cons (V.A4 41 1 (x.snd.snd.rings.get ((0 : Nat) + (Int.toNat x.fst.Ring))).x.AA.AD.nil (x.snd.snd.rings.get ((0 : Nat) + (Int.toNat x.fst.Ring))).x.AA.AD.n (fun i2=>(V.int IntKind.u64 ((x.snd.snd.rings.get ((0 : Nat) + (Int.toNat x.fst.Ring))).x.AA.AD.get i2)))) V.unit)) (V.cons (V.Ai (x.snd.snd.rings.get ((0 : Nat) + (Int.toNat x.fst.Ring))).x.s.nil (V.cons (V.A4 206 3 (x.snd.snd.rings.get ((0 : Nat) + (Int.toNat x.fst.Ring))).x.s.x.l.nil (x.snd.snd.rings.get ((0 : Nat) + (Int.toNat x.fst.Ring))).x.s.x.l.n (fun i2=>(V.cons (V.int IntKind.u64 ((x.snd.snd.rings.get ((0 : Nat) + (Int.toNat x.fst.Ring))).x.s.x.l.get i2).AO) (V.cons (V.int IntKind.u64 ((x.snd.snd.rings.get ((0 : Nat) + (Int.toNat x.fst.Ring))).x.s.x.l.get i2).Value) (V.cons (V.int IntKind.i64 ((x.snd.snd.rings.get ((0 : Nat) + (Int.toNat x.fst.Ring))).x.s.x.l.get i2).Left) V.unit))))) (V.cons (V.int IntKind.i64 (x.snd.snd.rings.get ((0 : Nat) + (Int.toNat x.fst.Ring))).x.s.x.AW) V.unit))) (V.cons (V.int IntKind.u64 (x.snd.snd.rings.get ((0 : Nat) + (Int.toNat x.fst.Ring))).x.most) (V.cons (V.bool (x.snd.snd.rings.get ((0 : Nat) + (Int.toNat x.fst.Ring))).x.closed) V.unit)))))))) <|
 (.need ((true && true) && (Nat.beq x.snd.snd.rings.n x.snd.snd.rings.n)) <|
 (.ret (false,x.snd.snd)))))))
 (.ite (AX x.fst.Kind 2)
 (.call con_f29 (x.fst.AG,(x.snd.snd.rings.get ((0 : Nat) + (Int.toNat x.fst.Ring))).x) fun (y1 : R_f29) =>
 (.need ((true && true) && (((Nat.beq x.snd.snd.rings.n x.snd.snd.rings.n) && (Nat.blt ((0 : Nat) + (Int.toNat x.fst.Ring)) x.snd.snd.rings.n)) && (!(x.snd.snd.rings.get ((0 : Nat) + (Int.toNat x.fst.Ring))).nil))) <|
 (.side (((fun v : Nat → V=>v = v) (fun i2=>(cond (Nat.beq i2 ((0 : Nat) + (Int.toNat x.fst.Ring))) (V.ptr (Id.loc 15 0) List.nil) (V.Ai (x.snd.snd.rings.get i2).nil (V.cons (V.cons (V.int IntKind.u64 (x.snd.snd.rings.get i2).x.AA.tail) (V.cons (V.A4 41 1 (x.snd.snd.rings.get i2).x.AA.AD.nil (x.snd.snd.rings.get i2).x.AA.AD.n (fun i3=>(V.int IntKind.u64 ((x.snd.snd.rings.get i2).x.AA.AD.get i3)))) V.unit)) (V.cons (V.Ai (x.snd.snd.rings.get i2).x.s.nil (V.cons (V.A4 206 3 (x.snd.snd.rings.get i2).x.s.x.l.nil (x.snd.snd.rings.get i2).x.s.x.l.n (fun i3=>(V.cons (V.int IntKind.u64 ((x.snd.snd.rings.get i2).x.s.x.l.get i3).AO) (V.cons (V.int IntKind.u64 ((x.snd.snd.rings.get i2).x.s.x.l.get i3).Value) (V.cons (V.int IntKind.i64 ((x.snd.snd.rings.get i2).x.s.x.l.get i3).Left) V.unit))))) (V.cons (V.int IntKind.i64 (x.snd.snd.rings.get i2).x.s.x.AW) V.unit))) (V.cons (V.int IntKind.u64 (x.snd.snd.rings.get i2).x.most) (V.cons (V.bool (x.snd.snd.rings.get i2).x.closed) V.unit)))))))) ∧ (((fun v : V=>v = v) (V.cons (V.cons (V.int IntKind.u64 (x.snd.snd.rings.get ((0 : Nat) + (Int.toNat x.fst.Ring))).x.AA.tail) (V.cons (V.A4 41 1 (x.snd.snd.rings.get ((0 : Nat) + (Int.toNat x.fst.Ring))).x.AA.AD.nil (x.snd.snd.rings.get ((0 : Nat) + (Int.toNat x.fst.Ring))).x.AA.AD.n (fun i2=>(V.int IntKind.u64 ((x.snd.snd.rings.get ((0 : Nat) + (Int.toNat x.fst.Ring))).x.AA.AD.get i2)))) V.unit)) (V.cons (V.Ai (x.snd.snd.rings.get ((0 : Nat) + (Int.toNat x.fst.Ring))).x.s.nil (V.cons (V.A4 206 3 (x.snd.snd.rings.get ((0 : Nat) + (Int.toNat x.fst.Ring))).x.s.x.l.nil (x.snd.snd.rings.get ((0 : Nat) + (Int.toNat x.fst.Ring))).x.s.x.l.n (fun i2=>(V.cons (V.int IntKind.u64 ((x.snd.snd.rings.get ((0 : Nat) + (Int.toNat x.fst.Ring))).x.s.x.l.get i2).AO) (V.cons (V.int IntKind.u64 ((x.snd.snd.rings.get ((0 : Nat) + (Int.toNat x.fst.Ring))).x.s.x.l.get i2).Value) (V.cons (V.int IntKind.i64 ((x.snd.snd.rings.get ((0 : Nat) + (Int.toNat x.fst.Ring))).x.s.x.l.get i2).Left) V.unit))))) (V.cons (V.int IntKind.i64 (x.snd.snd.rings.get ((0 : Nat) + (Int.toNat x.fst.Ring))).x.s.x.AW) V.unit))) (V.cons (V.int IntKind.u64 (x.snd.snd.rings.get ((0 : Nat) + (Int.toNat x.fst.Ring))).x.most) (V.cons (V.bool (x.snd.snd.rings.get ((0 : Nat) + (Int.toNat x.fst.Ring))).x.closed) V.unit))))) ∧ ((fun v : V=>v = v) (V.Ai (x.snd.snd.rings.get ((0 : Nat) + (Int.toNat x.fst.Ring))).nil (V.cons (V.cons (V.int IntKind.u64 (x.snd.snd.rings.get ((0 : Nat) + (Int.toNat x.fst.Ring))).x.AA.tail) (V.cons (V.A4 41 1 (x.snd.snd.rings.get ((0 : Nat) + (Int.toNat x.fst.Ring))).x.AA.AD.nil (x.snd.snd.rings.get ((0 : Nat) + (Int.toNat x.fst.Ring))).x.AA.AD.n (fun i2=>(V.int IntKind.u64 ((x.snd.snd.rings.get ((0 : Nat) + (Int.toNat x.fst.Ring))).x.AA.AD.get i2)))) V.unit)) (V.cons (V.Ai (x.snd.snd.rings.get ((0 : Nat) + (Int.toNat x.fst.Ring))).x.s.nil (V.cons (V.A4 206 3 (x.snd.snd.rings.get ((0 : Nat) + (Int.toNat x.fst.Ring))).x.s.x.l.nil (x.snd.snd.rings.get ((0 : Nat) + (Int.toNat x.fst.Ring))).x.s.x.l.n (fun i2=>(V.cons (V.int IntKind.u64 ((x.snd.snd.rings.get ((0 : Nat) + (Int.toNat x.fst.Ring))).x.s.x.l.get i2).AO) (V.cons (V.int IntKind.u64 ((x.snd.snd.rings.get ((0 : Nat) + (Int.toNat x.fst.Ring))).x.s.x.l.get i2).Value) (V.cons (V.int IntKind.i64 ((x.snd.snd.rings.get ((0 : Nat) + (Int.toNat x.fst.Ring))).x.s.x.l.get i2).Left) V.unit))))) (V.cons (V.int IntKind.i64 (x.snd.snd.rings.get ((0 : Nat) + (Int.toNat x.fst.Ring))).x.s.x.AW) V.unit))) (V.cons (V.int IntKind.u64 (x.snd.snd.rings.get ((0 : Nat) + (Int.toNat x.fst.Ring))).x.most) (V.cons (V.bool (x.snd.snd.rings.get ((0 : Nat) + (Int.toNat x.fst.Ring))).x.closed) V.unit)))))))) <|
 (.need ((true && true) && (Nat.beq x.snd.snd.rings.n x.snd.snd.rings.n)) <|
 (.ret (y1,x.snd.snd))))))
 (.ite (AX x.fst.Kind 3)
 (.call con_f1g (x.snd.fst.Reader,(x.snd.snd.rings.get ((0 : Nat) + (Int.toNat x.fst.Ring))).x) fun (y1 : R_f1g) =>
 (.ite (!y1)
 (.call con_fq (x.snd.fst.Reader,(x.snd.snd.rings.get ((0 : Nat) + (Int.toNat x.fst.Ring))).x) fun (y2 : R_fq) =>
 (.need ((true && true) && (((Nat.beq x.snd.snd.rings.n x.snd.snd.rings.n) && (Nat.blt ((0 : Nat) + (Int.toNat x.fst.Ring)) x.snd.snd.rings.n)) && (!(x.snd.snd.rings.get ((0 : Nat) + (Int.toNat x.fst.Ring))).nil))) <|
 (.side (((fun v : Nat → V=>v = v) (fun i3=>(cond (Nat.beq i3 ((0 : Nat) + (Int.toNat x.fst.Ring))) (V.ptr (Id.loc 15 0) List.nil) (V.Ai (x.snd.snd.rings.get i3).nil (V.cons (V.cons (V.int IntKind.u64 (x.snd.snd.rings.get i3).x.AA.tail) (V.cons (V.A4 41 1 (x.snd.snd.rings.get i3).x.AA.AD.nil (x.snd.snd.rings.get i3).x.AA.AD.n (fun i4=>(V.int IntKind.u64 ((x.snd.snd.rings.get i3).x.AA.AD.get i4)))) V.unit)) (V.cons (V.Ai (x.snd.snd.rings.get i3).x.s.nil (V.cons (V.A4 206 3 (x.snd.snd.rings.get i3).x.s.x.l.nil (x.snd.snd.rings.get i3).x.s.x.l.n (fun i4=>(V.cons (V.int IntKind.u64 ((x.snd.snd.rings.get i3).x.s.x.l.get i4).AO) (V.cons (V.int IntKind.u64 ((x.snd.snd.rings.get i3).x.s.x.l.get i4).Value) (V.cons (V.int IntKind.i64 ((x.snd.snd.rings.get i3).x.s.x.l.get i4).Left) V.unit))))) (V.cons (V.int IntKind.i64 (x.snd.snd.rings.get i3).x.s.x.AW) V.unit))) (V.cons (V.int IntKind.u64 (x.snd.snd.rings.get i3).x.most) (V.cons (V.bool (x.snd.snd.rings.get i3).x.closed) V.unit)))))))) ∧ (((fun v : V=>v = v) (V.cons (V.cons (V.int IntKind.u64 (x.snd.snd.rings.get ((0 : Nat) + (Int.toNat x.fst.Ring))).x.AA.tail) (V.cons (V.A4 41 1 (x.snd.snd.rings.get ((0 : Nat) + (Int.toNat x.fst.Ring))).x.AA.AD.nil (x.snd.snd.rings.get ((0 : Nat) + (Int.toNat x.fst.Ring))).x.AA.AD.n (fun i3=>(V.int IntKind.u64 ((x.snd.snd.rings.get ((0 : Nat) + (Int.toNat x.fst.Ring))).x.AA.AD.get i3)))) V.unit)) (V.cons (V.Ai (x.snd.snd.rings.get ((0 : Nat) + (Int.toNat x.fst.Ring))).x.s.nil (V.cons (V.A4 206 3 (x.snd.snd.rings.get ((0 : Nat) + (Int.toNat x.fst.Ring))).x.s.x.l.nil (x.snd.snd.rings.get ((0 : Nat) + (Int.toNat x.fst.Ring))).x.s.x.l.n (fun i3=>(V.cons (V.int IntKind.u64 ((x.snd.snd.rings.get ((0 : Nat) + (Int.toNat x.fst.Ring))).x.s.x.l.get i3).AO) (V.cons (V.int IntKind.u64 ((x.snd.snd.rings.get ((0 : Nat) + (Int.toNat x.fst.Ring))).x.s.x.l.get i3).Value) (V.cons (V.int IntKind.i64 ((x.snd.snd.rings.get ((0 : Nat) + (Int.toNat x.fst.Ring))).x.s.x.l.get i3).Left) V.unit))))) (V.cons (V.int IntKind.i64 (x.snd.snd.rings.get ((0 : Nat) + (Int.toNat x.fst.Ring))).x.s.x.AW) V.unit))) (V.cons (V.int IntKind.u64 (x.snd.snd.rings.get ((0 : Nat) + (Int.toNat x.fst.Ring))).x.most) (V.cons (V.bool (x.snd.snd.rings.get ((0 : Nat) + (Int.toNat x.fst.Ring))).x.closed) V.unit))))) ∧ ((fun v : V=>v = v) (V.Ai (x.snd.snd.rings.get ((0 : Nat) + (Int.toNat x.fst.Ring))).nil (V.cons (V.cons (V.int IntKind.u64 (x.snd.snd.rings.get ((0 : Nat) + (Int.toNat x.fst.Ring))).x.AA.tail) (V.cons (V.A4 41 1 (x.snd.snd.rings.get ((0 : Nat) + (Int.toNat x.fst.Ring))).x.AA.AD.nil (x.snd.snd.rings.get ((0 : Nat) + (Int.toNat x.fst.Ring))).x.AA.AD.n (fun i3=>(V.int IntKind.u64 ((x.snd.snd.rings.get ((0 : Nat) + (Int.toNat x.fst.Ring))).x.AA.AD.get i3)))) V.unit)) (V.cons (V.Ai (x.snd.snd.rings.get ((0 : Nat) + (Int.toNat x.fst.Ring))).x.s.nil (V.cons (V.A4 206 3 (x.snd.snd.rings.get ((0 : Nat) + (Int.toNat x.fst.Ring))).x.s.x.l.nil (x.snd.snd.rings.get ((0 : Nat) + (Int.toNat x.fst.Ring))).x.s.x.l.n (fun i3=>(V.cons (V.int IntKind.u64 ((x.snd.snd.rings.get ((0 : Nat) + (Int.toNat x.fst.Ring))).x.s.x.l.get i3).AO) (V.cons (V.int IntKind.u64 ((x.snd.snd.rings.get ((0 : Nat) + (Int.toNat x.fst.Ring))).x.s.x.l.get i3).Value) (V.cons (V.int IntKind.i64 ((x.snd.snd.rings.get ((0 : Nat) + (Int.toNat x.fst.Ring))).x.s.x.l.get i3).Left) V.unit))))) (V.cons (V.int IntKind.i64 (x.snd.snd.rings.get ((0 : Nat) + (Int.toNat x.fst.Ring))).x.s.x.AW) V.unit))) (V.cons (V.int IntKind.u64 (x.snd.snd.rings.get ((0 : Nat) + (Int.toNat x.fst.Ring))).x.most) (V.cons (V.bool (x.snd.snd.rings.get ((0 : Nat) + (Int.toNat x.fst.Ring))).x.closed) V.unit)))))))) <|
 (.need ((true && true) && (Nat.beq x.snd.snd.rings.n x.snd.snd.rings.n)) <|
 (.ret ((AX x.fst.AG y2),x.snd.snd))))))
 (.need ((true && true) && (((Nat.beq x.snd.snd.rings.n x.snd.snd.rings.n) && (Nat.blt ((0 : Nat) + (Int.toNat x.fst.Ring)) x.snd.snd.rings.n)) && (!(x.snd.snd.rings.get ((0 : Nat) + (Int.toNat x.fst.Ring))).nil))) <|
 (.side (((fun v : Nat → V=>v = v) (fun i2=>(cond (Nat.beq i2 ((0 : Nat) + (Int.toNat x.fst.Ring))) (V.ptr (Id.loc 15 0) List.nil) (V.Ai (x.snd.snd.rings.get i2).nil (V.cons (V.cons (V.int IntKind.u64 (x.snd.snd.rings.get i2).x.AA.tail) (V.cons (V.A4 41 1 (x.snd.snd.rings.get i2).x.AA.AD.nil (x.snd.snd.rings.get i2).x.AA.AD.n (fun i3=>(V.int IntKind.u64 ((x.snd.snd.rings.get i2).x.AA.AD.get i3)))) V.unit)) (V.cons (V.Ai (x.snd.snd.rings.get i2).x.s.nil (V.cons (V.A4 206 3 (x.snd.snd.rings.get i2).x.s.x.l.nil (x.snd.snd.rings.get i2).x.s.x.l.n (fun i3=>(V.cons (V.int IntKind.u64 ((x.snd.snd.rings.get i2).x.s.x.l.get i3).AO) (V.cons (V.int IntKind.u64 ((x.snd.snd.rings.get i2).x.s.x.l.get i3).Value) (V.cons (V.int IntKind.i64 ((x.snd.snd.rings.get i2).x.s.x.l.get i3).Left) V.unit))))) (V.cons (V.int IntKind.i64 (x.snd.snd.rings.get i2).x.s.x.AW) V.unit))) (V.cons (V.int IntKind.u64 (x.snd.snd.rings.get i2).x.most) (V.cons (V.bool (x.snd.snd.rings.get i2).x.closed) V.unit)))))))) ∧ (((fun v : V=>v = v) (V.cons (V.cons (V.int IntKind.u64 (x.snd.snd.rings.get ((0 : Nat) + (Int.toNat x.fst.Ring))).x.AA.tail) (V.cons (V.A4 41 1 (x.snd.snd.rings.get ((0 : Nat) + (Int.toNat x.fst.Ring))).x.AA.AD.nil (x.snd.snd.rings.get ((0 : Nat) + (Int.toNat x.fst.Ring))).x.AA.AD.n (fun i2=>(V.int IntKind.u64 ((x.snd.snd.rings.get ((0 : Nat) + (Int.toNat x.fst.Ring))).x.AA.AD.get i2)))) V.unit)) (V.cons (V.Ai (x.snd.snd.rings.get ((0 : Nat) + (Int.toNat x.fst.Ring))).x.s.nil (V.cons (V.A4 206 3 (x.snd.snd.rings.get ((0 : Nat) + (Int.toNat x.fst.Ring))).x.s.x.l.nil (x.snd.snd.rings.get ((0 : Nat) + (Int.toNat x.fst.Ring))).x.s.x.l.n (fun i2=>(V.cons (V.int IntKind.u64 ((x.snd.snd.rings.get ((0 : Nat) + (Int.toNat x.fst.Ring))).x.s.x.l.get i2).AO) (V.cons (V.int IntKind.u64 ((x.snd.snd.rings.get ((0 : Nat) + (Int.toNat x.fst.Ring))).x.s.x.l.get i2).Value) (V.cons (V.int IntKind.i64 ((x.snd.snd.rings.get ((0 : Nat) + (Int.toNat x.fst.Ring))).x.s.x.l.get i2).Left) V.unit))))) (V.cons (V.int IntKind.i64 (x.snd.snd.rings.get ((0 : Nat) + (Int.toNat x.fst.Ring))).x.s.x.AW) V.unit))) (V.cons (V.int IntKind.u64 (x.snd.snd.rings.get ((0 : Nat) + (Int.toNat x.fst.Ring))).x.most) (V.cons (V.bool (x.snd.snd.rings.get ((0 : Nat) + (Int.toNat x.fst.Ring))).x.closed) V.unit))))) ∧ ((fun v : V=>v = v) (V.Ai (x.snd.snd.rings.get ((0 : Nat) + (Int.toNat x.fst.Ring))).nil (V.cons (V.cons (V.int IntKind.u64 (x.snd.snd.rings.get ((0 : Nat) + (Int.toNat x.fst.Ring))).x.AA.tail) (V.cons (V.A4 41 1 (x.snd.snd.rings.get ((0 : Nat) + (Int.toNat x.fst.Ring))).x.AA.AD.nil (x.snd.snd.rings.get ((0 : Nat) + (Int.toNat x.fst.Ring))).x.AA.AD.n (fun i2=>(V.int IntKind.u64 ((x.snd.snd.rings.get ((0 : Nat) + (Int.toNat x.fst.Ring))).x.AA.AD.get i2)))) V.unit)) (V.cons (V.Ai (x.snd.snd.rings.get ((0 : Nat) + (Int.toNat x.fst.Ring))).x.s.nil (V.cons (V.A4 206 3 (x.snd.snd.rings.get ((0 : Nat) + (Int.toNat x.fst.Ring))).x.s.x.l.nil (x.snd.snd.rings.get ((0 : Nat) + (Int.toNat x.fst.Ring))).x.s.x.l.n (fun i2=>(V.cons (V.int IntKind.u64 ((x.snd.snd.rings.get ((0 : Nat) + (Int.toNat x.fst.Ring))).x.s.x.l.get i2).AO) (V.cons (V.int IntKind.u64 ((x.snd.snd.rings.get ((0 : Nat) + (Int.toNat x.fst.Ring))).x.s.x.l.get i2).Value) (V.cons (V.int IntKind.i64 ((x.snd.snd.rings.get ((0 : Nat) + (Int.toNat x.fst.Ring))).x.s.x.l.get i2).Left) V.unit))))) (V.cons (V.int IntKind.i64 (x.snd.snd.rings.get ((0 : Nat) + (Int.toNat x.fst.Ring))).x.s.x.AW) V.unit))) (V.cons (V.int IntKind.u64 (x.snd.snd.rings.get ((0 : Nat) + (Int.toNat x.fst.Ring))).x.most) (V.cons (V.bool (x.snd.snd.rings.get ((0 : Nat) + (Int.toNat x.fst.Ring))).x.closed) V.unit)))))))) <|
 (.need ((true && true) && (Nat.beq x.snd.snd.rings.n x.snd.snd.rings.n)) <|
 (.ret (false,x.snd.snd)))))))
 (.ite (AX x.fst.Kind 4)
 (.call con_f2g (x.snd.fst.Reader,(x.fst.AG,(x.snd.snd.rings.get ((0 : Nat) + (Int.toNat x.fst.Ring))).x)) fun (y1 : R_f2g) =>
 (.need ((true && true) && (((Nat.beq x.snd.snd.rings.n x.snd.snd.rings.n) && (Nat.blt ((0 : Nat) + (Int.toNat x.fst.Ring)) x.snd.snd.rings.n)) && (!(x.snd.snd.rings.get ((0 : Nat) + (Int.toNat x.fst.Ring))).nil))) <|
 (.side (((fun v : Nat → V=>v = v) (fun i2=>(cond (Nat.beq i2 ((0 : Nat) + (Int.toNat x.fst.Ring))) (V.ptr (Id.loc 15 0) List.nil) (V.Ai (x.snd.snd.rings.get i2).nil (V.cons (V.cons (V.int IntKind.u64 (x.snd.snd.rings.get i2).x.AA.tail) (V.cons (V.A4 41 1 (x.snd.snd.rings.get i2).x.AA.AD.nil (x.snd.snd.rings.get i2).x.AA.AD.n (fun i3=>(V.int IntKind.u64 ((x.snd.snd.rings.get i2).x.AA.AD.get i3)))) V.unit)) (V.cons (V.Ai (x.snd.snd.rings.get i2).x.s.nil (V.cons (V.A4 206 3 (x.snd.snd.rings.get i2).x.s.x.l.nil (x.snd.snd.rings.get i2).x.s.x.l.n (fun i3=>(V.cons (V.int IntKind.u64 ((x.snd.snd.rings.get i2).x.s.x.l.get i3).AO) (V.cons (V.int IntKind.u64 ((x.snd.snd.rings.get i2).x.s.x.l.get i3).Value) (V.cons (V.int IntKind.i64 ((x.snd.snd.rings.get i2).x.s.x.l.get i3).Left) V.unit))))) (V.cons (V.int IntKind.i64 (x.snd.snd.rings.get i2).x.s.x.AW) V.unit))) (V.cons (V.int IntKind.u64 (x.snd.snd.rings.get i2).x.most) (V.cons (V.bool (x.snd.snd.rings.get i2).x.closed) V.unit)))))))) ∧ (((fun v : V=>v = v) (V.cons (V.cons (V.int IntKind.u64 (x.snd.snd.rings.get ((0 : Nat) + (Int.toNat x.fst.Ring))).x.AA.tail) (V.cons (V.A4 41 1 (x.snd.snd.rings.get ((0 : Nat) + (Int.toNat x.fst.Ring))).x.AA.AD.nil (x.snd.snd.rings.get ((0 : Nat) + (Int.toNat x.fst.Ring))).x.AA.AD.n (fun i2=>(V.int IntKind.u64 ((x.snd.snd.rings.get ((0 : Nat) + (Int.toNat x.fst.Ring))).x.AA.AD.get i2)))) V.unit)) (V.cons (V.Ai (x.snd.snd.rings.get ((0 : Nat) + (Int.toNat x.fst.Ring))).x.s.nil (V.cons (V.A4 206 3 (x.snd.snd.rings.get ((0 : Nat) + (Int.toNat x.fst.Ring))).x.s.x.l.nil (x.snd.snd.rings.get ((0 : Nat) + (Int.toNat x.fst.Ring))).x.s.x.l.n (fun i2=>(V.cons (V.int IntKind.u64 ((x.snd.snd.rings.get ((0 : Nat) + (Int.toNat x.fst.Ring))).x.s.x.l.get i2).AO) (V.cons (V.int IntKind.u64 ((x.snd.snd.rings.get ((0 : Nat) + (Int.toNat x.fst.Ring))).x.s.x.l.get i2).Value) (V.cons (V.int IntKind.i64 ((x.snd.snd.rings.get ((0 : Nat) + (Int.toNat x.fst.Ring))).x.s.x.l.get i2).Left) V.unit))))) (V.cons (V.int IntKind.i64 (x.snd.snd.rings.get ((0 : Nat) + (Int.toNat x.fst.Ring))).x.s.x.AW) V.unit))) (V.cons (V.int IntKind.u64 (x.snd.snd.rings.get ((0 : Nat) + (Int.toNat x.fst.Ring))).x.most) (V.cons (V.bool (x.snd.snd.rings.get ((0 : Nat) + (Int.toNat x.fst.Ring))).x.closed) V.unit))))) ∧ ((fun v : V=>v = v) (V.Ai (x.snd.snd.rings.get ((0 : Nat) + (Int.toNat x.fst.Ring))).nil (V.cons (V.cons (V.int IntKind.u64 (x.snd.snd.rings.get ((0 : Nat) + (Int.toNat x.fst.Ring))).x.AA.tail) (V.cons (V.A4 41 1 (x.snd.snd.rings.get ((0 : Nat) + (Int.toNat x.fst.Ring))).x.AA.AD.nil (x.snd.snd.rings.get ((0 : Nat) + (Int.toNat x.fst.Ring))).x.AA.AD.n (fun i2=>(V.int IntKind.u64 ((x.snd.snd.rings.get ((0 : Nat) + (Int.toNat x.fst.Ring))).x.AA.AD.get i2)))) V.unit)) (V.cons (V.Ai (x.snd.snd.rings.get ((0 : Nat) + (Int.toNat x.fst.Ring))).x.s.nil (V.cons (V.A4 206 3 (x.snd.snd.rings.get ((0 : Nat) + (Int.toNat x.fst.Ring))).x.s.x.l.nil (x.snd.snd.rings.get ((0 : Nat) + (Int.toNat x.fst.Ring))).x.s.x.l.n (fun i2=>(V.cons (V.int IntKind.u64 ((x.snd.snd.rings.get ((0 : Nat) + (Int.toNat x.fst.Ring))).x.s.x.l.get i2).AO) (V.cons (V.int IntKind.u64 ((x.snd.snd.rings.get ((0 : Nat) + (Int.toNat x.fst.Ring))).x.s.x.l.get i2).Value) (V.cons (V.int IntKind.i64 ((x.snd.snd.rings.get ((0 : Nat) + (Int.toNat x.fst.Ring))).x.s.x.l.get i2).Left) V.unit))))) (V.cons (V.int IntKind.i64 (x.snd.snd.rings.get ((0 : Nat) + (Int.toNat x.fst.Ring))).x.s.x.AW) V.unit))) (V.cons (V.int IntKind.u64 (x.snd.snd.rings.get ((0 : Nat) + (Int.toNat x.fst.Ring))).x.most) (V.cons (V.bool (x.snd.snd.rings.get ((0 : Nat) + (Int.toNat x.fst.Ring))).x.closed) V.unit)))))))) <|
 (.need ((true && true) && (Nat.beq x.snd.snd.rings.n x.snd.snd.rings.n)) <|
 (.ret (y1,x.snd.snd))))))
 (.call con_f1r (x.snd.snd.rings.get ((0 : Nat) + (Int.toNat x.fst.Ring))).x fun (y1 : R_f1r) =>
 (.need ((true && true) && (((Nat.beq x.snd.snd.rings.n x.snd.snd.rings.n) && (Nat.blt ((0 : Nat) + (Int.toNat x.fst.Ring)) x.snd.snd.rings.n)) && (!(x.snd.snd.rings.get ((0 : Nat) + (Int.toNat x.fst.Ring))).nil))) <|
 (.side (((fun v : Nat → V=>v = v) (fun i2=>(cond (Nat.beq i2 ((0 : Nat) + (Int.toNat x.fst.Ring))) (V.ptr (Id.loc 15 0) List.nil) (V.Ai (x.snd.snd.rings.get i2).nil (V.cons (V.cons (V.int IntKind.u64 (x.snd.snd.rings.get i2).x.AA.tail) (V.cons (V.A4 41 1 (x.snd.snd.rings.get i2).x.AA.AD.nil (x.snd.snd.rings.get i2).x.AA.AD.n (fun i3=>(V.int IntKind.u64 ((x.snd.snd.rings.get i2).x.AA.AD.get i3)))) V.unit)) (V.cons (V.Ai (x.snd.snd.rings.get i2).x.s.nil (V.cons (V.A4 206 3 (x.snd.snd.rings.get i2).x.s.x.l.nil (x.snd.snd.rings.get i2).x.s.x.l.n (fun i3=>(V.cons (V.int IntKind.u64 ((x.snd.snd.rings.get i2).x.s.x.l.get i3).AO) (V.cons (V.int IntKind.u64 ((x.snd.snd.rings.get i2).x.s.x.l.get i3).Value) (V.cons (V.int IntKind.i64 ((x.snd.snd.rings.get i2).x.s.x.l.get i3).Left) V.unit))))) (V.cons (V.int IntKind.i64 (x.snd.snd.rings.get i2).x.s.x.AW) V.unit))) (V.cons (V.int IntKind.u64 (x.snd.snd.rings.get i2).x.most) (V.cons (V.bool (x.snd.snd.rings.get i2).x.closed) V.unit)))))))) ∧ (((fun v : V=>v = v) (V.cons (V.cons (V.int IntKind.u64 (x.snd.snd.rings.get ((0 : Nat) + (Int.toNat x.fst.Ring))).x.AA.tail) (V.cons (V.A4 41 1 (x.snd.snd.rings.get ((0 : Nat) + (Int.toNat x.fst.Ring))).x.AA.AD.nil (x.snd.snd.rings.get ((0 : Nat) + (Int.toNat x.fst.Ring))).x.AA.AD.n (fun i2=>(V.int IntKind.u64 ((x.snd.snd.rings.get ((0 : Nat) + (Int.toNat x.fst.Ring))).x.AA.AD.get i2)))) V.unit)) (V.cons (V.Ai (x.snd.snd.rings.get ((0 : Nat) + (Int.toNat x.fst.Ring))).x.s.nil (V.cons (V.A4 206 3 (x.snd.snd.rings.get ((0 : Nat) + (Int.toNat x.fst.Ring))).x.s.x.l.nil (x.snd.snd.rings.get ((0 : Nat) + (Int.toNat x.fst.Ring))).x.s.x.l.n (fun i2=>(V.cons (V.int IntKind.u64 ((x.snd.snd.rings.get ((0 : Nat) + (Int.toNat x.fst.Ring))).x.s.x.l.get i2).AO) (V.cons (V.int IntKind.u64 ((x.snd.snd.rings.get ((0 : Nat) + (Int.toNat x.fst.Ring))).x.s.x.l.get i2).Value) (V.cons (V.int IntKind.i64 ((x.snd.snd.rings.get ((0 : Nat) + (Int.toNat x.fst.Ring))).x.s.x.l.get i2).Left) V.unit))))) (V.cons (V.int IntKind.i64 (x.snd.snd.rings.get ((0 : Nat) + (Int.toNat x.fst.Ring))).x.s.x.AW) V.unit))) (V.cons (V.int IntKind.u64 (x.snd.snd.rings.get ((0 : Nat) + (Int.toNat x.fst.Ring))).x.most) (V.cons (V.bool (x.snd.snd.rings.get ((0 : Nat) + (Int.toNat x.fst.Ring))).x.closed) V.unit))))) ∧ ((fun v : V=>v = v) (V.Ai (x.snd.snd.rings.get ((0 : Nat) + (Int.toNat x.fst.Ring))).nil (V.cons (V.cons (V.int IntKind.u64 (x.snd.snd.rings.get ((0 : Nat) + (Int.toNat x.fst.Ring))).x.AA.tail) (V.cons (V.A4 41 1 (x.snd.snd.rings.get ((0 : Nat) + (Int.toNat x.fst.Ring))).x.AA.AD.nil (x.snd.snd.rings.get ((0 : Nat) + (Int.toNat x.fst.Ring))).x.AA.AD.n (fun i2=>(V.int IntKind.u64 ((x.snd.snd.rings.get ((0 : Nat) + (Int.toNat x.fst.Ring))).x.AA.AD.get i2)))) V.unit)) (V.cons (V.Ai (x.snd.snd.rings.get ((0 : Nat) + (Int.toNat x.fst.Ring))).x.s.nil (V.cons (V.A4 206 3 (x.snd.snd.rings.get ((0 : Nat) + (Int.toNat x.fst.Ring))).x.s.x.l.nil (x.snd.snd.rings.get ((0 : Nat) + (Int.toNat x.fst.Ring))).x.s.x.l.n (fun i2=>(V.cons (V.int IntKind.u64 ((x.snd.snd.rings.get ((0 : Nat) + (Int.toNat x.fst.Ring))).x.s.x.l.get i2).AO) (V.cons (V.int IntKind.u64 ((x.snd.snd.rings.get ((0 : Nat) + (Int.toNat x.fst.Ring))).x.s.x.l.get i2).Value) (V.cons (V.int IntKind.i64 ((x.snd.snd.rings.get ((0 : Nat) + (Int.toNat x.fst.Ring))).x.s.x.l.get i2).Left) V.unit))))) (V.cons (V.int IntKind.i64 (x.snd.snd.rings.get ((0 : Nat) + (Int.toNat x.fst.Ring))).x.s.x.AW) V.unit))) (V.cons (V.int IntKind.u64 (x.snd.snd.rings.get ((0 : Nat) + (Int.toNat x.fst.Ring))).x.most) (V.cons (V.bool (x.snd.snd.rings.get ((0 : Nat) + (Int.toNat x.fst.Ring))).x.closed) V.unit)))))))) <|
 (.need ((true && true) && (Nat.beq x.snd.snd.rings.n x.snd.snd.rings.n)) <|
 (.ret ((AX x.fst.AG y1),x.snd.snd))))))))))))
theorem sd_f1d (x : X_f1d) : (tt_f1d x).AH :=
 (TT.sN (TT.sN (TT.sI (TT.sC fun _=>(TT.sI (TT.sC fun _=>(TT.sN (TT.sS ⟨rfl,⟨rfl,rfl⟩⟩ (TT.sN TT.sR)))) (TT.sN (TT.sS ⟨rfl,⟨rfl,rfl⟩⟩ (TT.sN TT.sR))))) (TT.sI (TT.sC fun _=>(TT.sN (TT.sS ⟨rfl,⟨rfl,rfl⟩⟩ (TT.sN TT.sR)))) (TT.sI (TT.sC fun _=>(TT.sI (TT.sC fun _=>(TT.sN (TT.sS ⟨rfl,⟨rfl,rfl⟩⟩ (TT.sN TT.sR)))) (TT.sN (TT.sS ⟨rfl,⟨rfl,rfl⟩⟩ (TT.sN TT.sR))))) (TT.sI (TT.sC fun _=>(TT.sN (TT.sS ⟨rfl,⟨rfl,rfl⟩⟩ (TT.sN TT.sR)))) (TT.sC fun _=>(TT.sN (TT.sS ⟨rfl,⟨rfl,rfl⟩⟩ (TT.sN TT.sR))))))))))
theorem roT_f1d (x : X_f1d) : TT.Ro p_f1d (w_f1d x) (tt_f1d x) :=
 (TT.rN (TT.rN (TT.rI (TT.rC fun _=>(TT.rI (TT.rC fun _=>(TT.rN (TT.rS (TT.rN (TT.rR rfl))))) (TT.rN (TT.rS (TT.rN (TT.rR rfl)))))) (TT.rI (TT.rC fun _=>(TT.rN (TT.rS (TT.rN (TT.rR rfl))))) (TT.rI (TT.rC fun _=>(TT.rI (TT.rC fun _=>(TT.rN (TT.rS (TT.rN (TT.rR rfl))))) (TT.rN (TT.rS (TT.rN (TT.rR rfl)))))) (TT.rI (TT.rC fun _=>(TT.rN (TT.rS (TT.rN (TT.rR rfl))))) (TT.rC fun _=>(TT.rN (TT.rS (TT.rN (TT.rR rfl)))))))))))
def D_f1d : AQ X_f1d R_f1d:=.ro (.of tt_f1d) (fun y=>(y.1)) (fun y x=>(y,x.2.2)) fun x y h=>congrArg (fun o=>(y.1,o)) (roT_f1d x y h)
def con_f1d : A3 Tryz.prog :=
 C3 62 J_f1d S_f1d (.of tt_f1d) D_f1d (fun y x=>(y,x.2.2)) (fun y=>V.bool y) 3 1 [.any,.any,.any] (lk mxk lbn sd_f1d) (fun x=>⟨(nu_e_TFa : ∀ y,(e_TFa y).CV) (x.2.2),trivial⟩)
abbrev X_f2z : Type:=TEv
abbrev R_f2z : Type:=Bool
def J_f2z : A9 Tryz.prog :=
 BF Tryz.prog Tryz.f63 11 [(1,3)] [] [] [] [.any] [] [] R_f2z [] fun y=>[V.bool y]
def S_f2z : AM :=
 Ae Tryz.f63 1 0 X_f2z (fun x=>[e_TEv x]) fun l=>(d_TEv (at_ l 0))
def tt_f2z (x : X_f2z) : TT Tryz.prog R_f2z :=
 (.ite (Bd x.Kind 4)
 (.ret true)
 (.ret (AX x.Kind 13)))
theorem sd_f2z (x : X_f2z) : (tt_f2z x).AH :=
 (TT.sI TT.sR TT.sR)
def D_f2z : AQ X_f2z R_f2z:=.of tt_f2z
def con_f2z : A3 Tryz.prog :=
 BZ 63 J_f2z S_f2z D_f2z 1 0 [.any] (lk mxk lbn sd_f2z)
end Go.Proofs.YtlhifcnjnmeknaaGreatDoor
end
