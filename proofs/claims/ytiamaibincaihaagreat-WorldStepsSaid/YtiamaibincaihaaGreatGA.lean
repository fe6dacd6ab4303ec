/- What functions of the program come to, part A: no statement is proved here. -/
import Derived.Test.YtiamaibincaihaaGreatM
import Derived.Test.YtiamaibincaihaaGreatProg
import Derived.KernelRfl
noncomputable section
namespace Go.Proofs.YtiamaibincaihaaGreat
open Go Go.Vm Go.Proofs
set_option maxRecDepth 100000
theorem mxk : Tryz.prog.follows .mixedOrders = true := by kernel_rfl
def d_TRg (v : V) : TRg :=
 ⟨dI (fd v 0), dI (fd v 1), dI (fd v 2)⟩
def e_TRg (x : TRg) : V :=
 V.cons ((V.int .i64) x.Kind) (V.cons ((V.int .i64) x.DE) (V.cons ((V.int .i64) x.AR) (V.unit)))
theorem nu_e_TRg (x : TRg) : (e_TRg x).Ch := ⟨trivial, trivial, trivial, trivial⟩
abbrev Dsl_TRg : Type := (Sl TRg)
def esl_TRg : Dsl_TRg → V := (L4 none 3 e_TRg)
def dsl_TRg : V → Dsl_TRg := (Lk d_TRg)
def hsl_TRg : Sh := (.sl none 3 (e_TRg (d_TRg .undef)))
def d_TIn (v : V) : TIn :=
 ⟨dI (fd v 0), dI (fd v 1), dI (fd v 2), dI (fd v 3), dI (fd v 4), dI (fd v 5)⟩
def e_TIn (x : TIn) : V :=
 V.cons ((V.int .i64) x.Op) (V.cons ((V.int .i64) x.A) (V.cons ((V.int .i64) x.B) (V.cons ((V.int .i64) x.C) (V.cons ((V.int .i64) x.D) (V.cons ((V.int .u64) x.K) (V.unit))))))
theorem nu_e_TIn (x : TIn) : (e_TIn x).Ch := ⟨trivial, trivial, trivial, trivial, trivial, trivial, trivial⟩
abbrev Dsl_TIn : Type := (Sl TIn)
def esl_TIn : Dsl_TIn → V := (L4 none 6 e_TIn)
def dsl_TIn : V → Dsl_TIn := (Lk d_TIn)
def hsl_TIn : Sh := (.sl none 6 (e_TIn (d_TIn .undef)))
abbrev Dsl_sl_TIn : Type := (Sl (Sl TIn))
def esl_sl_TIn : Dsl_sl_TIn → V := (L4 none 1 esl_TIn)
def dsl_sl_TIn : V → Dsl_sl_TIn := (Lk dsl_TIn)
def hsl_sl_TIn : Sh := (.sl none 1 (esl_TIn (dsl_TIn .undef)))
structure TPg where
 AF : (Sl TRg)
 AB : (Sl (Sl TIn))
def d_TPg (v : V) : TPg :=
 ⟨dsl_TRg (fd v 0), dsl_sl_TIn (fd v 1)⟩
def e_TPg (x : TPg) : V :=
 V.cons (esl_TRg x.AF) (V.cons (esl_sl_TIn x.AB) (V.unit))
theorem nu_e_TPg (x : TPg) : (e_TPg x).Ch := ⟨trivial, trivial, trivial⟩
def sh_TPg : Sh := (.cons hsl_TRg (.cons hsl_sl_TIn .any))
abbrev X_f3r : Type := Unit
abbrev R_f3r : Type := TPg
def J_f3r : BH Tryz.prog :=
 BN Tryz.prog Tryz.f36 5 [] [] [] [] [sh_TPg] [] [] R_f3r [] fun y => [e_TPg y]
def S_f3r : AO :=
 Ah Tryz.f36 0 0 X_f3r (fun _x => []) fun _l => ()
def tt_f3r (_x : X_f3r) : TT Tryz.prog R_f3r :=
 (.ret (TPg.mk (Sl.mk true 0 (fun _i1 => (TRg.mk 0 0 0))) (Sl.mk false 1 (fun _i1 => (Sl.mk false 1 (fun _i2 => (TIn.mk 25 0 0 0 0 0)))))))
theorem sd_f3r (x : X_f3r) : (tt_f3r x).AJ :=
 TT.sR
def D_f3r : AU X_f3r R_f3r := .of tt_f3r
def con_f3r : BC Tryz.prog :=
 Br 36 J_f3r S_f3r D_f3r 0 0 [] (lk mxk lbn sd_f3r)
abbrev X_f23 : Type := TRg
abbrev R_f23 : Type := Bool
def J_f23 : BH Tryz.prog :=
 BN Tryz.prog Tryz.f129 34 [(1, 3)] [] [] [] [.any] [] [] R_f23 [] fun y => [V.bool y]
def S_f23 : AO :=
 Ah Tryz.f129 1 0 X_f23 (fun x => [e_TRg x]) fun l => (d_TRg (at_ l 0))
structure X_f23_3 where
 Ns : TRg
def S_f23_3 : AO :=
 Ad Tryz.f129 3 [(1, .any)] [] [] X_f23_3 (fun x => [(CU e_TRg) x.Ns]) fun l => ⟨(CV d_TRg) (at_ l 0)⟩
def tt_f23_3 (x : X_f23_3) : TT Tryz.prog R_f23 :=
 (.ite (AW x.Ns.Kind 1)
 (.ite (AW x.Ns.AR 1)
 (.ret true)
 (.ite (AW x.Ns.Kind 2)
 (.ite (Bm 1 x.Ns.AR)
 (.ret (Bm x.Ns.AR 8))
 (.ret false))
 (.ret false)))
 (.ite (AW x.Ns.Kind 2)
 (.ite (Bm 1 x.Ns.AR)
 (.ret (Bm x.Ns.AR 8))
 (.ret false))
 (.ret false)))
theorem sd_f23_3 (x : X_f23_3) : (tt_f23_3 x).AJ :=
 (TT.sI (TT.sI TT.sR (TT.sI (TT.sI TT.sR TT.sR) TT.sR)) (TT.sI (TT.sI TT.sR TT.sR) TT.sR))
def D_f23_3 : AU X_f23_3 R_f23 := .of tt_f23_3
theorem ok_f23_3 : AY J_f23 S_f23_3 D_f23_3 :=
 lk mxk lbn sd_f23_3
def tt_f23 (x : X_f23) : TT Tryz.prog R_f23 :=
 (.ite (Bg x.DE 1)
 (.ret false)
 (.ite (Bg 64 x.DE)
 (.ret false)
 (.AM S_f23_3 D_f23_3 (X_f23_3.mk x))))
theorem sd_f23 (x : X_f23) : (tt_f23 x).AJ :=
 (TT.sI TT.sR (TT.sI TT.sR TT.sJ))
def D_f23 : AU X_f23 R_f23 := .of tt_f23
def con_f23 : BC Tryz.prog :=
 Br 129 J_f23 S_f23 D_f23 1 0 [.any] (lk mxk (lbc ok_f23_3 rfl lbn) sd_f23)
abbrev X_f3i : Type := Int
abbrev R_f3i : Type := Bool
def J_f3i : BH Tryz.prog :=
 BN Tryz.prog Tryz.f196 9 [] [] [] [] [.any] [] [] R_f3i [] fun y => [V.bool y]
def S_f3i : AO :=
 Ah Tryz.f196 1 0 X_f3i (fun x => [(V.int .i64) x]) fun l => (dI (at_ l 0))
def tt_f3i (x : X_f3i) : TT Tryz.prog R_f3i :=
 (.ite (Bm 1 x)
 (.ret (Bm x 17))
 (.ret false))
theorem sd_f3i (x : X_f3i) : (tt_f3i x).AJ :=
 (TT.sI TT.sR TT.sR)
def D_f3i : AU X_f3i R_f3i := .of tt_f3i
def con_f3i : BC Tryz.prog :=
 Br 196 J_f3i S_f3i D_f3i 1 0 [.any] (lk mxk lbn sd_f3i)
structure TCl where
 a : Int
 b : Int
 c : Int
 d : Int
 k : Int
def d_TCl (v : V) : TCl :=
 ⟨dI (fd v 0), dI (fd v 1), dI (fd v 2), dI (fd v 3), dI (fd v 4)⟩
def e_TCl (x : TCl) : V :=
 V.cons ((V.int .i64) x.a) (V.cons ((V.int .i64) x.b) (V.cons ((V.int .i64) x.c) (V.cons ((V.int .i64) x.d) (V.cons ((V.int .u64) x.k) (V.unit)))))
theorem nu_e_TCl (x : TCl) : (e_TCl x).Ch := ⟨trivial, trivial, trivial, trivial, trivial, trivial⟩
abbrev X_f22 : Type := Int
abbrev R_f22 : Type := TCl × Bool
def J_f22 : BH Tryz.prog :=
 BN Tryz.prog Tryz.f181 39 [] [] [] [] [.any, .any] [] [con_f3i] R_f22 [] fun y => [V.CN (V.cons (e_TCl y.1) (V.cons (V.bool y.2) (V.unit)))]
def S_f22 : AO :=
 Ah Tryz.f181 1 0 X_f22 (fun x => [(V.int .i64) x]) fun l => (dI (at_ l 0))
structure X_f22_24 where
 Dt : Int
 Bp : TCl
def S_f22_24 : AO :=
 Ad Tryz.f181 24 (an [0, 2]) [] [(.loc 2 0, .any)] X_f22_24 (fun x => [(V.int .i64) x.Dt, (V.ptr (.loc 2 0) []), e_TCl x.Bp]) fun l => ⟨dI (at_ l 0), d_TCl (at_ l 2)⟩
def tt_f22_24 (x : X_f22_24) : TT Tryz.prog R_f22 :=
 (.call con_f3i x.Dt fun (y1 : R_f3i) =>
 (.ret ((TCl.mk 7 7 7 0 0), y1)))
theorem sd_f22_24 (x : X_f22_24) : (tt_f22_24 x).AJ :=
 (TT.sC fun _ => TT.sR)
def D_f22_24 : AU X_f22_24 R_f22 := .of tt_f22_24
theorem ok_f22_24 : AY J_f22 S_f22_24 D_f22_24 :=
 lk mxk lbn sd_f22_24
def tt_f22 (x : X_f22) : TT Tryz.prog R_f22 :=
 (.ite (AW x 1)
 (.ret ((TCl.mk 7 0 0 0 18446744073709551615), true))
 (.ite (AW x 2)
 (.ret ((TCl.mk 7 7 0 0 0), true))
 (.ite (AW x 23)
 (.ret ((TCl.mk 7 7 0 0 0), true))
 (.ite (AW x 15)
 (.ret ((TCl.mk 0 0 0 0 256), true))
 (.ite (AW x 16)
 (.ret ((TCl.mk 7 0 0 0 256), true))
 (.ite (AW x 17)
 (.ret ((TCl.mk 7 0 0 0 256), true))
 (.ite (AW x 18)
 (.ret ((TCl.mk 7 7 7 2 0), true))
 (.ite (AW x 19)
 (.ret ((TCl.mk 7 7 7 2 7), true))
 (.ite (AW x 20)
 (.ret ((TCl.mk 0 0 7 0 0), true))
 (.ite (AW x 21)
 (.ret ((TCl.mk 7 0 0 0 0), true))
 (.ite (AW x 22)
 (.ret ((TCl.mk 7 0 0 0 0), true))
 (.ite (AW x 24)
 (.ret ((TCl.mk 7 0 0 0 0), true))
 (.ite (AW x 25)
 (.ret ((TCl.mk 0 0 0 0 0), true))
 (.AM S_f22_24 D_f22_24 (X_f22_24.mk x (TCl.mk 0 0 0 0 0))))))))))))))))
theorem sd_f22 (x : X_f22) : (tt_f22 x).AJ :=
 (TT.sI TT.sR (TT.sI TT.sR (TT.sI TT.sR (TT.sI TT.sR (TT.sI TT.sR (TT.sI TT.sR (TT.sI TT.sR (TT.sI TT.sR (TT.sI TT.sR (TT.sI TT.sR (TT.sI TT.sR (TT.sI TT.sR (TT.sI TT.sR TT.sJ)))))))))))))
def D_f22 : AU X_f22 R_f22 := .of tt_f22
def con_f22 : BC Tryz.prog :=
 Br 181 J_f22 S_f22 D_f22 1 0 [.any] (lk mxk (lbc ok_f22_24 rfl lbn) sd_f22)
abbrev X_f3j : Type := TIn
abbrev R_f3j : Type := Bool
def J_f3j : BH Tryz.prog :=
 BN Tryz.prog Tryz.f152 67 [(1, 3), (5, 1)] [] [] [] [.any] [] [con_f22] R_f3j [] fun y => [V.bool y]
def S_f3j : AO :=
 Ah Tryz.f152 1 0 X_f3j (fun x => [e_TIn x]) fun l => (d_TIn (at_ l 0))
def tt_f3j (x : X_f3j) : TT Tryz.prog R_f3j :=
 (.call con_f22 x.Op fun (y1 : R_f22) =>
 (.ite y1.snd
 (.ite (Bm 0 x.A)
 (.ite (Bm x.A y1.fst.a)
 (.ite (Bm 0 x.B)
 (.ite (Bm x.B y1.fst.b)
 (.ite (Bm 0 x.C)
 (.ite (Bm x.C y1.fst.c)
 (.ite (Bm 0 x.D)
 (.ite (Bm x.D y1.fst.d)
 (.ret (Bm x.K y1.fst.k))
 (.ret false))
 (.ret false))
 (.ret false))
 (.ret false))
 (.ret false))
 (.ret false))
 (.ret false))
 (.ret false))
 (.ret false)))
theorem sd_f3j (x : X_f3j) : (tt_f3j x).AJ :=
 (TT.sC fun _ => (TT.sI (TT.sI (TT.sI (TT.sI (TT.sI (TT.sI (TT.sI (TT.sI (TT.sI TT.sR TT.sR) TT.sR) TT.sR) TT.sR) TT.sR) TT.sR) TT.sR) TT.sR) TT.sR))
def D_f3j : AU X_f3j R_f3j := .of tt_f3j
def con_f3j : BC Tryz.prog :=
 Br 152 J_f3j S_f3j D_f3j 1 0 [.any] (lk mxk lbn sd_f3j)
abbrev X_f3k : Type := TIn
abbrev R_f3k : Type := Bool
def J_f3k : BH Tryz.prog :=
 BN Tryz.prog Tryz.f153 11 [(1, 3)] [] [] [] [.any] [] [] R_f3k [] fun y => [V.bool y]
def S_f3k : AO :=
 Ah Tryz.f153 1 0 X_f3k (fun x => [e_TIn x]) fun l => (d_TIn (at_ l 0))
def tt_f3k (x : X_f3k) : TT Tryz.prog R_f3k :=
 (.ite (Bm 15 x.Op)
 (.ret (Bm x.Op 17))
 (.ret false))
theorem sd_f3k (x : X_f3k) : (tt_f3k x).AJ :=
 (TT.sI TT.sR TT.sR)
def D_f3k : AU X_f3k R_f3k := .of tt_f3k
def con_f3k : BC Tryz.prog :=
 Br 153 J_f3k S_f3k D_f3k 1 0 [.any] (lk mxk lbn sd_f3k)
abbrev X_f3g : Type := Int
abbrev R_f3g : Type := Bool
def J_f3g : BH Tryz.prog :=
 BN Tryz.prog Tryz.f171 13 [] [] [] [] [.any] [] [] R_f3g [] fun y => [V.bool y]
def S_f3g : AO :=
 Ah Tryz.f171 1 0 X_f3g (fun x => [(V.int .i64) x]) fun l => (dI (at_ l 0))
def tt_f3g (x : X_f3g) : TT Tryz.prog R_f3g :=
 (.ite (AW x 18)
 (.ret true)
 (.ite (AW x 19)
 (.ret true)
 (.ret (AW x 20))))
theorem sd_f3g (x : X_f3g) : (tt_f3g x).AJ :=
 (TT.sI TT.sR (TT.sI TT.sR TT.sR))
def D_f3g : AU X_f3g R_f3g := .of tt_f3g
def con_f3g : BC Tryz.prog :=
 Br 171 J_f3g S_f3g D_f3g 1 0 [.any] (lk mxk lbn sd_f3g)
abbrev X_f3o : Type := TPg × TIn × Int
abbrev R_f3o : Type := Int
def J_f3o : BH Tryz.prog :=
 BN Tryz.prog Tryz.f130 50 [(3, 3), (4, 3)] [] [] [] [.any] [] [con_f3g, con_f3k, con_f3j] R_f3o [] fun y => [(V.int .i64) y]
def S_f3o : AO :=
 Ah Tryz.f130 3 0 X_f3o (fun x => [e_TPg x.1, e_TIn x.2.1, (V.int .i64) x.2.2]) fun l => (d_TPg (at_ l 0), d_TIn (at_ l 1), dI (at_ l 2))
def tt_f3o (x : X_f3o) : TT Tryz.prog R_f3o :=
 (.call con_f3j x.snd.fst fun (y1 : R_f3j) =>
 (.ite (!y1)
 (.ret 6)
 (.call con_f3k x.snd.fst fun (y2 : R_f3k) =>
 (.ite y2
 (.ite (Bg (IntKind.u64.wrap x.snd.snd) x.snd.fst.K)
 (.ret 5)
 (.call con_f3g x.snd.fst.Op fun (y3 : R_f3g) =>
 (.ite y3
 (.ite (Bm ((x.fst.AF.n : Nat) : Int) x.snd.fst.C)
 (.ret 7)
 (.ite (AW x.snd.fst.Op 19)
 (.need (A3 x.snd.fst.C x.fst.AF.n) <|
 (.ite (Bm (IntKind.u64.wrap (x.fst.AF.get (Int.toNat x.snd.fst.C)).AR) x.snd.fst.K)
 (.ret 7)
 (.ret 0)))
 (.ret 0)))
 (.ite (AW x.snd.fst.Op 19)
 (.need (A3 x.snd.fst.C x.fst.AF.n) <|
 (.ite (Bm (IntKind.u64.wrap (x.fst.AF.get (Int.toNat x.snd.fst.C)).AR) x.snd.fst.K)
 (.ret 7)
 (.ret 0)))
 (.ret 0)))))
 (.call con_f3g x.snd.fst.Op fun (y3 : R_f3g) =>
 (.ite y3
 (.ite (Bm ((x.fst.AF.n : Nat) : Int) x.snd.fst.C)
 (.ret 7)
 (.ite (AW x.snd.fst.Op 19)
 (.need (A3 x.snd.fst.C x.fst.AF.n) <|
 (.ite (Bm (IntKind.u64.wrap (x.fst.AF.get (Int.toNat x.snd.fst.C)).AR) x.snd.fst.K)
 (.ret 7)
 (.ret 0)))
 (.ret 0)))
 (.ite (AW x.snd.fst.Op 19)
 (.need (A3 x.snd.fst.C x.fst.AF.n) <|
 (.ite (Bm (IntKind.u64.wrap (x.fst.AF.get (Int.toNat x.snd.fst.C)).AR) x.snd.fst.K)
 (.ret 7)
 (.ret 0)))
 (.ret 0))))))))
theorem sd_f3o (x : X_f3o) : (tt_f3o x).AJ :=
 (TT.sC fun _ => (TT.sI TT.sR (TT.sC fun _ => (TT.sI (TT.sI TT.sR (TT.sC fun _ => (TT.sI (TT.sI TT.sR (TT.sI (TT.sN (TT.sI TT.sR TT.sR)) TT.sR)) (TT.sI (TT.sN (TT.sI TT.sR TT.sR)) TT.sR)))) (TT.sC fun _ => (TT.sI (TT.sI TT.sR (TT.sI (TT.sN (TT.sI TT.sR TT.sR)) TT.sR)) (TT.sI (TT.sN (TT.sI TT.sR TT.sR)) TT.sR)))))))
def D_f3o : AU X_f3o R_f3o := .of tt_f3o
def con_f3o : BC Tryz.prog :=
 Br 130 J_f3o S_f3o D_f3o 3 0 [sh_TPg, .any, .any] (lk mxk lbn sd_f3o)
abbrev X_f3 : Type := TPg
abbrev R_f3 : Type := Int × Int × Int
def J_f3 : BH Tryz.prog :=
 BN Tryz.prog Tryz.f71 72 [(1, 3)] [] [] [] [.any, .any, .any] [] [con_f3o, con_f23] R_f3 [] fun y => [V.CN (V.cons ((V.int .i64) y.1) (V.cons ((V.int .i64) y.2.1) (V.cons ((V.int .i64) y.2.2) (V.unit))))]
def S_f3 : AO :=
 Ah Tryz.f71 1 0 X_f3 (fun x => [e_TPg x]) fun l => (d_TPg (at_ l 0))
structure X_f3_4 where
 Dr : TPg
def S_f3_4 : AO :=
 Ad Tryz.f71 4 [(1, .any)] [] [] X_f3_4 (fun x => [(CU e_TPg) x.Dr]) fun l => ⟨(CV d_TPg) (at_ l 0)⟩
structure X_f3_5 where
 Dr : TPg
 NB : (Sl TRg)
 Ek : Int
 Fz : Int
def S_f3_5 : AO :=
 Ad Tryz.f71 5 [(1, .any), (29, hsl_TRg), (30, .any), (31, .any)] [] [] X_f3_5 (fun x => [(CU e_TPg) x.Dr, esl_TRg x.NB, (V.int .i64) x.Ek, (V.int .i64) x.Fz]) fun l => ⟨(CV d_TPg) (at_ l 0), dsl_TRg (at_ l 1), dI (at_ l 2), dI (at_ l 3)⟩
structure X_f3_10 where
 Dr : TPg
def S_f3_10 : AO :=
 Ad Tryz.f71 10 [(1, .any)] [] [] X_f3_10 (fun x => [(CU e_TPg) x.Dr]) fun l => ⟨(CV d_TPg) (at_ l 0)⟩
structure X_f3_11 where
 Dr : TPg
 IU : (Sl (Sl TIn))
 Lw : Int
 HF : Int
def S_f3_11 : AO :=
 Ad Tryz.f71 11 [(1, .any), (42, hsl_sl_TIn), (43, .any), (44, .any)] [] [] X_f3_11 (fun x => [(CU e_TPg) x.Dr, esl_sl_TIn x.IU, (V.int .i64) x.Lw, (V.int .i64) x.HF]) fun l => ⟨(CV d_TPg) (at_ l 0), dsl_sl_TIn (at_ l 1), dI (at_ l 2), dI (at_ l 3)⟩
structure X_f3_16 where
 Dr : TPg
 t_8 : Int
 l_9 : (Sl TIn)
 IU : (Sl (Sl TIn))
 Lw : Int
 HF : Int
 Th : (Sl TIn)
 Um : Int
 Q0 : Int
def S_f3_16 : AO :=
 Ad Tryz.f71 16 [(1, .any), (8, .any), (9, hsl_TIn), (42, hsl_sl_TIn), (43, .any), (44, .any), (53, hsl_TIn), (54, .any), (55, .any)] [] [] X_f3_16 (fun x => [(CU e_TPg) x.Dr, (V.int .i64) x.t_8, esl_TIn x.l_9, esl_sl_TIn x.IU, (V.int .i64) x.Lw, (V.int .i64) x.HF, esl_TIn x.Th, (V.int .i64) x.Um, (V.int .i64) x.Q0]) fun l => ⟨(CV d_TPg) (at_ l 0), dI (at_ l 1), dsl_TIn (at_ l 2), dsl_sl_TIn (at_ l 3), dI (at_ l 4), dI (at_ l 5), dsl_TIn (at_ l 6), dI (at_ l 7), dI (at_ l 8)⟩
structure X_f3_22 where
 Dr : TPg
 IU : (Sl (Sl TIn))
 Lw : Int
 HF : Int
def S_f3_22 : AO :=
 Ad Tryz.f71 22 [(1, .any), (42, hsl_sl_TIn), (43, .any), (44, .any)] [] [] X_f3_22 (fun x => [(CU e_TPg) x.Dr, esl_sl_TIn x.IU, (V.int .i64) x.Lw, (V.int .i64) x.HF]) fun l => ⟨(CV d_TPg) (at_ l 0), dsl_sl_TIn (at_ l 1), dI (at_ l 2), dI (at_ l 3)⟩
def tt_f3_22 (D_f3_11 : AU X_f3_11 R_f3) (x : X_f3_22) : TT Tryz.prog R_f3 :=
 (.AM S_f3_11 D_f3_11 (X_f3_11.mk x.Dr x.IU x.Lw (IntKind.i64.wrap (x.HF + 1))))
theorem sd_f3_22 (D_f3_11 : AU X_f3_11 R_f3) (x : X_f3_22) : (tt_f3_22 D_f3_11 x).AJ :=
 TT.sJ
def D_f3_22 (D_f3_11 : AU X_f3_11 R_f3) : AU X_f3_22 R_f3 := .of (tt_f3_22 D_f3_11)
theorem ok_f3_22 (D_f3_11 : AU X_f3_11 R_f3) (h_11 : AY J_f3 S_f3_11 D_f3_11) : AY J_f3 S_f3_22 (D_f3_22 D_f3_11) :=
 lk mxk (lbc h_11 rfl lbn) (sd_f3_22 D_f3_11)
def tt_f3_16 (D_f3_11 : AU X_f3_11 R_f3) (D_f3_16 : AU X_f3_16 R_f3) (x : X_f3_16) : TT Tryz.prog R_f3 :=
 (.ite (Bg x.Q0 x.Um)
 (.need (A3 x.Q0 x.Th.n) <|
 (.call con_f3o (x.Dr, ((x.Th.get (Int.toNat x.Q0)), ((x.l_9.n : Nat) : Int))) fun (y3 : R_f3o) =>
 (.ite (!(AW y3 0))
 (.ret (x.t_8, (x.Q0, y3)))
 (.AM S_f3_16 D_f3_16 (X_f3_16.mk x.Dr x.t_8 x.l_9 x.IU x.Lw x.HF x.Th x.Um (IntKind.i64.wrap (x.Q0 + 1)))))))
 (.AM S_f3_22 (D_f3_22 D_f3_11) (X_f3_22.mk x.Dr x.IU x.Lw x.HF)))
theorem sd_f3_16 (D_f3_11 : AU X_f3_11 R_f3) (D_f3_16 : AU X_f3_16 R_f3) (x : X_f3_16) : (tt_f3_16 D_f3_11 D_f3_16 x).AJ :=
 (TT.sI (TT.sN (TT.sC fun _ => (TT.sI TT.sR TT.sJ))) TT.sJ)
def D_f3_16 (D_f3_11 : AU X_f3_11 R_f3) : AU X_f3_16 R_f3 := AU.loop (tt_f3_16 D_f3_11)
theorem ok_f3_16 (D_f3_11 : AU X_f3_11 R_f3) (h_11 : AY J_f3 S_f3_11 D_f3_11) : AY J_f3 S_f3_16 (D_f3_16 D_f3_11) :=
 A5 fun D_f3_16 h_16 => lk mxk (lbc h_11 rfl (lbc h_16 rfl (lbc (ok_f3_22 D_f3_11 h_11) rfl lbn))) (sd_f3_16 D_f3_11 D_f3_16)
def tt_f3_11 (D_f3_11 : AU X_f3_11 R_f3) (x : X_f3_11) : TT Tryz.prog R_f3 :=
 (.ite (Bg x.HF x.Lw)
 (.need (A3 x.HF x.IU.n) <|
 (.ite (Bg 256 (((x.IU.get (Int.toNat x.HF)).n : Nat) : Int))
 (.ret (x.HF, (256, 4)))
 (.AM S_f3_16 (D_f3_16 D_f3_11) (X_f3_16.mk x.Dr x.HF (x.IU.get (Int.toNat x.HF)) x.IU x.Lw x.HF (x.IU.get (Int.toNat x.HF)) (((x.IU.get (Int.toNat x.HF)).n : Nat) : Int) 0))))
 (.ret (0, (0, 0))))
theorem sd_f3_11 (D_f3_11 : AU X_f3_11 R_f3) (x : X_f3_11) : (tt_f3_11 D_f3_11 x).AJ :=
 (TT.sI (TT.sN (TT.sI TT.sR TT.sJ)) TT.sR)
def D_f3_11 : AU X_f3_11 R_f3 := AU.loop tt_f3_11
theorem ok_f3_11 : AY J_f3 S_f3_11 D_f3_11 :=
 A5 fun D_f3_11 h_11 => lk mxk (lbc h_11 rfl (lbc (ok_f3_22 D_f3_11 h_11) rfl (lbc (ok_f3_16 D_f3_11 h_11) rfl lbn))) (sd_f3_11 D_f3_11)
def tt_f3_10 (x : X_f3_10) : TT Tryz.prog R_f3 :=
 (.AM S_f3_11 D_f3_11 (X_f3_11.mk x.Dr x.Dr.AB ((x.Dr.AB.n : Nat) : Int) 0))
theorem sd_f3_10 (x : X_f3_10) : (tt_f3_10 x).AJ :=
 TT.sJ
def D_f3_10 : AU X_f3_10 R_f3 := .of tt_f3_10
theorem ok_f3_10 : AY J_f3 S_f3_10 D_f3_10 :=
 lk mxk (lbc ok_f3_11 rfl lbn) sd_f3_10
def tt_f3_5 (D_f3_5 : AU X_f3_5 R_f3) (x : X_f3_5) : TT Tryz.prog R_f3 :=
 (.ite (Bg x.Fz x.Ek)
 (.need (A3 x.Fz x.NB.n) <|
 (.call con_f23 (x.NB.get (Int.toNat x.Fz)) fun (y2 : R_f23) =>
 (.ite (!y2)
 (.ret ((-(1 : Int)), (x.Fz, 7)))
 (.AM S_f3_5 D_f3_5 (X_f3_5.mk x.Dr x.NB x.Ek (IntKind.i64.wrap (x.Fz + 1)))))))
 (.AM S_f3_10 D_f3_10 (X_f3_10.mk x.Dr)))
theorem sd_f3_5 (D_f3_5 : AU X_f3_5 R_f3) (x : X_f3_5) : (tt_f3_5 D_f3_5 x).AJ :=
 (TT.sI (TT.sN (TT.sC fun _ => (TT.sI TT.sR TT.sJ))) TT.sJ)
def D_f3_5 : AU X_f3_5 R_f3 := AU.loop tt_f3_5
theorem ok_f3_5 : AY J_f3 S_f3_5 D_f3_5 :=
 A5 fun D_f3_5 h_5 => lk mxk (lbc h_5 rfl (lbc ok_f3_11 rfl (lbc ok_f3_10 rfl lbn))) (sd_f3_5 D_f3_5)
def tt_f3_4 (x : X_f3_4) : TT Tryz.prog R_f3 :=
 (.AM S_f3_5 D_f3_5 (X_f3_5.mk x.Dr x.Dr.AF ((x.Dr.AF.n : Nat) : Int) 0))
theorem sd_f3_4 (x : X_f3_4) : (tt_f3_4 x).AJ :=
 TT.sJ
def D_f3_4 : AU X_f3_4 R_f3 := .of tt_f3_4
theorem ok_f3_4 : AY J_f3 S_f3_4 D_f3_4 :=
 lk mxk (lbc ok_f3_11 rfl (lbc ok_f3_10 rfl (lbc ok_f3_5 rfl lbn))) sd_f3_4
def tt_f3 (x : X_f3) : TT Tryz.prog R_f3 :=
 (.ite (AW ((x.AB.n : Nat) : Int) 0)
 (.ret (0, (0, 1)))
 (.ite (Bg 8 ((x.AB.n : Nat) : Int))
 (.ret (0, (0, 1)))
 (.ite (Bg 8 ((x.AF.n : Nat) : Int))
 (.ret (0, (0, 1)))
 (.AM S_f3_4 D_f3_4 (X_f3_4.mk x)))))
theorem sd_f3 (x : X_f3) : (tt_f3 x).AJ :=
 (TT.sI TT.sR (TT.sI TT.sR (TT.sI TT.sR TT.sJ)))
def D_f3 : AU X_f3 R_f3 := .of tt_f3
def con_f3 : BC Tryz.prog :=
 Br 71 J_f3 S_f3 D_f3 1 0 [sh_TPg] (lk mxk (lbc ok_f3_11 rfl (lbc ok_f3_10 rfl (lbc ok_f3_5 rfl (lbc ok_f3_4 rfl lbn)))) sd_f3)
abbrev X_f3a : Type := TPg
abbrev R_f3a : Type := Bool
def J_f3a : BH Tryz.prog :=
 BN Tryz.prog Tryz.f37 14 [(1, 3), (6, 1)] [] [] [] [.any] [] [con_f3] R_f3a [] fun y => [V.bool y]
def S_f3a : AO :=
 Ah Tryz.f37 1 0 X_f3a (fun x => [e_TPg x]) fun l => (d_TPg (at_ l 0))
def tt_f3a (x : X_f3a) : TT Tryz.prog R_f3a :=
 (.call con_f3 x fun (y1 : R_f3) =>
 (.ret (AW y1.snd.snd 0)))
theorem sd_f3a (x : X_f3a) : (tt_f3a x).AJ :=
 (TT.sC fun _ => TT.sR)
def D_f3a : AU X_f3a R_f3a := .of tt_f3a
def con_f3a : BC Tryz.prog :=
 Br 37 J_f3a S_f3a D_f3a 1 0 [sh_TPg] (lk mxk lbn sd_f3a)
abbrev X_f21 : Type := (Sl TRg)
abbrev R_f21 : Type := (Sl TRg)
def J_f21 : BH Tryz.prog :=
 BN Tryz.prog Tryz.f72 8 [(6, 1)] [] [] [.Eg 2] [hsl_TRg] [] [] R_f21 [] fun y => [esl_TRg y]
def S_f21 : AO :=
 Ah Tryz.f72 1 0 X_f21 (fun x => [esl_TRg x]) fun l => (dsl_TRg (at_ l 0))
def tt_f21 (x : X_f21) : TT Tryz.prog R_f21 :=
 (.ite x.nil
 (.ret (Sl.mk true 0 (fun _i1 => (TRg.mk 0 0 0))))
 (.need (true && (room ((0 : Nat) + x.n) 24)) <|
 (.ret (Sl.mk (cond (Nat.beq x.n 0) false false) ((0 : Nat) + x.n) (fun i1 => (TRg.mk (cond (Nat.blt i1 0) (0 : Int) (x.get (i1 - 0)).Kind) (cond (Nat.blt i1 0) (0 : Int) (x.get (i1 - 0)).DE) (cond (Nat.blt i1 0) (0 : Int) (x.get (i1 - 0)).AR)))))))
theorem sd_f21 (x : X_f21) : (tt_f21 x).AJ :=
 (TT.sI TT.sR (TT.sN TT.sR))
def D_f21 : AU X_f21 R_f21 := .of tt_f21
def con_f21 : BC Tryz.prog :=
 Br 72 J_f21 S_f21 D_f21 1 0 [hsl_TRg] (lk mxk lbn sd_f21)
abbrev X_f1u : Type := (Sl TIn)
abbrev R_f1u : Type := (Sl TIn)
def J_f1u : BH Tryz.prog :=
 BN Tryz.prog Tryz.f73 8 [(6, 1)] [] [] [.Eg 2] [hsl_TIn] [] [] R_f1u [] fun y => [esl_TIn y]
def S_f1u : AO :=
 Ah Tryz.f73 1 0 X_f1u (fun x => [esl_TIn x]) fun l => (dsl_TIn (at_ l 0))
def tt_f1u (x : X_f1u) : TT Tryz.prog R_f1u :=
 (.ite x.nil
 (.ret (Sl.mk true 0 (fun _i1 => (TIn.mk 0 0 0 0 0 0))))
 (.need (true && (room ((0 : Nat) + x.n) 48)) <|
 (.ret (Sl.mk (cond (Nat.beq x.n 0) false false) ((0 : Nat) + x.n) (fun i1 => (TIn.mk (cond (Nat.blt i1 0) (0 : Int) (x.get (i1 - 0)).Op) (cond (Nat.blt i1 0) (0 : Int) (x.get (i1 - 0)).A) (cond (Nat.blt i1 0) (0 : Int) (x.get (i1 - 0)).B) (cond (Nat.blt i1 0) (0 : Int) (x.get (i1 - 0)).C) (cond (Nat.blt i1 0) (0 : Int) (x.get (i1 - 0)).D) (cond (Nat.blt i1 0) (0 : Int) (x.get (i1 - 0)).K)))))))
theorem sd_f1u (x : X_f1u) : (tt_f1u x).AJ :=
 (TT.sI TT.sR (TT.sN TT.sR))
def D_f1u : AU X_f1u R_f1u := .of tt_f1u
def con_f1u : BC Tryz.prog :=
 Br 73 J_f1u S_f1u D_f1u 1 0 [hsl_TIn] (lk mxk lbn sd_f1u)
abbrev DslA_sl_TIn : Type := (Sl (Sl TIn))
def eslA_sl_TIn : DslA_sl_TIn → V := (L4 (some 116) 1 esl_TIn)
def dslA_sl_TIn : V → DslA_sl_TIn := (Lk dsl_TIn)
def hslA_sl_TIn : Sh := (.sl (some 116) 1 (esl_TIn (dsl_TIn .undef)))
def e_TPg_1 (x : TPg) : V :=
 V.cons (esl_TRg x.AF) (V.cons (eslA_sl_TIn x.AB) (V.unit))
theorem nu_e_TPg_1 (x : TPg) : (e_TPg_1 x).Ch := ⟨trivial, trivial, trivial⟩
def sh_TPg_1 : Sh := (.cons hsl_TRg (.cons hslA_sl_TIn .any))
abbrev X_f10 : Type := TPg
abbrev R_f10 : Type := TPg
def J_f10 : BH Tryz.prog :=
 BN Tryz.prog Tryz.f38 26 [(1, 3), (18, 1), (19, 1)] [] [] [] [sh_TPg] [] [con_f1u, con_f21] R_f10 [] fun y => [e_TPg y]
def S_f10 : AO :=
 Ah Tryz.f38 1 0 X_f10 (fun x => [e_TPg x]) fun l => (d_TPg (at_ l 0))
structure X_f10_3 where
 SG : (Sl (Sl TIn))
 Tk : Int
 PW : Int
 Bp : TPg
 BM : TPg
def S_f10_3 : AO :=
 Ad Tryz.f38 3 [(2, .any), (3, .any), (11, hsl_sl_TIn), (12, .any), (13, .any)] [] [(.loc 2 0, sh_TPg), (.loc 3 0, sh_TPg_1)] X_f10_3 (fun x => [(V.ptr (.loc 2 0) []), (V.ptr (.loc 3 0) []), esl_sl_TIn x.SG, (V.int .i64) x.Tk, (V.int .i64) x.PW, e_TPg x.Bp, e_TPg_1 x.BM]) fun l => ⟨dsl_sl_TIn (at_ l 2), dI (at_ l 3), dI (at_ l 4), d_TPg (at_ l 5), d_TPg (at_ l 6)⟩
def tt_f10_3 (D_f10_3 : AU X_f10_3 R_f10) (x : X_f10_3) : TT Tryz.prog R_f10 :=
 (.ite (Bg x.PW x.Tk)
 (.need (A3 x.PW x.SG.n) <|
 (.call con_f1u (x.SG.get (Int.toNat x.PW)) fun (y2 : R_f1u) =>
 (.need (true && (room (x.BM.AB.n + 1) 24)) <|
 (.AM S_f10_3 D_f10_3 (X_f10_3.mk x.SG x.Tk (IntKind.i64.wrap (x.PW + 1)) x.Bp (TPg.mk x.BM.AF (Sl.mk (cond (Nat.beq 1 0) x.BM.AB.nil false) (x.BM.AB.n + 1) (fun i3 => (Sl.mk (cond (Nat.blt i3 x.BM.AB.n) (x.BM.AB.get i3).nil y2.nil) (cond (Nat.blt i3 x.BM.AB.n) (x.BM.AB.get i3).n y2.n) (fun i4 => (TIn.mk (cond (Nat.blt i3 x.BM.AB.n) ((x.BM.AB.get i3).get i4).Op (y2.get i4).Op) (cond (Nat.blt i3 x.BM.AB.n) ((x.BM.AB.get i3).get i4).A (y2.get i4).A) (cond (Nat.blt i3 x.BM.AB.n) ((x.BM.AB.get i3).get i4).B (y2.get i4).B) (cond (Nat.blt i3 x.BM.AB.n) ((x.BM.AB.get i3).get i4).C (y2.get i4).C) (cond (Nat.blt i3 x.BM.AB.n) ((x.BM.AB.get i3).get i4).D (y2.get i4).D) (cond (Nat.blt i3 x.BM.AB.n) ((x.BM.AB.get i3).get i4).K (y2.get i4).K))))))))))))
 (.ret x.BM))
theorem sd_f10_3 (D_f10_3 : AU X_f10_3 R_f10) (x : X_f10_3) : (tt_f10_3 D_f10_3 x).AJ :=
 (TT.sI (TT.sN (TT.sC fun _ => (TT.sN TT.sJ))) TT.sR)
def D_f10_3 : AU X_f10_3 R_f10 := AU.loop tt_f10_3
theorem ok_f10_3 : AY J_f10 S_f10_3 D_f10_3 :=
 A5 fun D_f10_3 h_3 => lk mxk (lbc h_3 rfl lbn) (sd_f10_3 D_f10_3)
def tt_f10 (x : X_f10) : TT Tryz.prog R_f10 :=
 (.call con_f21 x.AF fun (y1 : R_f21) =>
 (.AM S_f10_3 D_f10_3 (X_f10_3.mk x.AB ((x.AB.n : Nat) : Int) 0 (TPg.mk (Sl.mk true 0 (fun _i2 => (TRg.mk 0 0 0))) (Sl.mk true 0 (fun _i2 => (Sl.mk true 0 (fun _i3 => (TIn.mk 0 0 0 0 0 0)))))) (TPg.mk y1 (Sl.mk true 0 (fun _i2 => (Sl.mk true 0 (fun _i3 => (TIn.mk 0 0 0 0 0 0)))))))))
theorem sd_f10 (x : X_f10) : (tt_f10 x).AJ :=
 (TT.sC fun _ => TT.sJ)
def D_f10 : AU X_f10 R_f10 := .of tt_f10
def con_f10 : BC Tryz.prog :=
 Br 38 J_f10 S_f10 D_f10 1 0 [sh_TPg] (lk mxk (lbc ok_f10_3 rfl lbn) sd_f10)
abbrev X_f3s : Type := Int × Int
abbrev R_f3s : Type := Bool
def J_f3s : BH Tryz.prog :=
 BN Tryz.prog Tryz.f131 19 [] [] [] [] [.any] [] [] R_f3s [] fun y => [V.bool y]
def S_f3s : AO :=
 Ah Tryz.f131 2 0 X_f3s (fun x => [(V.int .i64) x.1, (V.int .i64) x.2]) fun l => (dI (at_ l 0), dI (at_ l 1))
def tt_f3s (x : X_f3s) : TT Tryz.prog R_f3s :=
 (.ite (Bm 1 x.fst)
 (.ite (Bm x.fst 64)
 (.ite (Bm 1 x.snd)
 (.ret (Bm x.snd 8))
 (.ret false))
 (.ret false))
 (.ret false))
theorem sd_f3s (x : X_f3s) : (tt_f3s x).AJ :=
 (TT.sI (TT.sI (TT.sI TT.sR TT.sR) TT.sR) TT.sR)
def D_f3s : AU X_f3s R_f3s := .of tt_f3s
def con_f3s : BC Tryz.prog :=
 Br 131 J_f3s S_f3s D_f3s 2 0 [.any, .any] (lk mxk lbn sd_f3s)
abbrev X_f2q : Type := Int
abbrev R_f2q : Type := Int
def J_f2q : BH Tryz.prog :=
 BN Tryz.prog Tryz.f132 5 [] [] [] [] [.any] [] [] R_f2q [] fun y => [(V.int .u64) y]
def S_f2q : AO :=
 Ah Tryz.f132 1 0 X_f2q (fun x => [(V.int .u64) x]) fun l => (dI (at_ l 0))
def tt_f2q (x : X_f2q) : TT Tryz.prog R_f2q :=
 (.ret (IntKind.u64.wrap ((2 : Int) * x)))
theorem sd_f2q (x : X_f2q) : (tt_f2q x).AJ :=
 TT.sR
def D_f2q : AU X_f2q R_f2q := .of tt_f2q
def con_f2q : BC Tryz.prog :=
 Br 132 J_f2q S_f2q D_f2q 1 0 [.any] (lk mxk lbn sd_f2q)
def d_TSo (v : V) : TSo :=
 ⟨dI (fd v 0), dI (fd v 1), dI (fd v 2)⟩
def e_TSo (x : TSo) : V :=
 V.cons ((V.int .u64) x.AP) (V.cons ((V.int .u64) x.Value) (V.cons ((V.int .i64) x.Left) (V.unit)))
theorem nu_e_TSo (x : TSo) : (e_TSo x).Ch := ⟨trivial, trivial, trivial, trivial⟩
abbrev Dsl_TSo : Type := (Sl TSo)
def esl_TSo : Dsl_TSo → V := (L4 none 3 e_TSo)
def dsl_TSo : V → Dsl_TSo := (Lk d_TSo)
def hsl_TSo : Sh := (.sl none 3 (e_TSo (d_TSo .undef)))
abbrev Dosl_TSo : Type := (Sl TSo)
def eosl_TSo : Dosl_TSo → V := (UF 175 3 e_TSo)
def dosl_TSo : V → Dosl_TSo := (Lk d_TSo)
def hosl_TSo : Sh := (.A7 175 3 (e_TSo (d_TSo .undef)))
structure TSs where
 l : (Sl TSo)
 AX : Int
def d_TSs (v : V) : TSs :=
 ⟨dosl_TSo (fd v 0), dI (fd v 1)⟩
def e_TSs (x : TSs) : V :=
 V.cons (eosl_TSo x.l) (V.cons ((V.int .i64) x.AX) (V.unit))
theorem nu_e_TSs (x : TSs) : (e_TSs x).Ch := ⟨(fun _ _ => (nu_e_TSo) _ : ∀ y, (eosl_TSo y).Ch) x.l, trivial, trivial⟩
def sh_TSs : Sh := (.cons hosl_TSo .any)
abbrev Dbox_TSs : Type := (Bx TSs)
def ebox_TSs : Dbox_TSs → V := (eBx e_TSs)
def dbox_TSs : V → Dbox_TSs := (dBx d_TSs)
def hbox_TSs : Sh := (.box (e_TSs (d_TSs .undef)))
abbrev X_f1s : Type := Int × Int
abbrev R_f1s : Type := (Bx TSs) × Int
def J_f1s : BH Tryz.prog :=
 BN Tryz.prog Tryz.f74 37 [(13, 1)] [(5, [.close (.loc 28 0), .close (.loc 20 0)]), (6, [.close (.loc 28 0), .close (.loc 20 0)]), (7, [.close (.loc 28 0), .close (.loc 20 0)]), (8, [.close (.loc 28 0), .close (.loc 20 0)]), (9, [.close (.loc 28 0), .close (.loc 20 0)])] [(7, [.IC (.loc 16 0) [.B8 0 0] 28])] [.close (.loc 28 0), .close (.loc 20 0), .Eg 4] [hbox_TSs, .any] [] [con_f2q, con_f3s] R_f1s [(0, [⟨.loc 28 0, .loc 16 0, [.B8 0 0], none, none⟩]), (5, [⟨.loc 28 0, .loc 16 0, [.B8 0 0], none, none⟩])] fun y => [V.CN (V.cons (ebox_TSs y.1) (V.cons ((V.int .i64) y.2) (V.unit)))]
def S_f1s : AO :=
 Ah Tryz.f74 2 0 X_f1s (fun x => [(V.int .i64) x.1, (V.int .i64) x.2]) fun l => (dI (at_ l 0), dI (at_ l 1))
structure X_f1s_5 where
 Ly : Int
 HG : Int
 C1 : TSs
def S_f1s_5 : AO :=
 Ad Tryz.f74 5 (an [6, 21, 22]) [] [(.loc 16 0, sh_TSs)] X_f1s_5 (fun x => [(V.ptr (.loc 16 0) []), (V.int .i64) x.Ly, (V.int .i64) x.HG, e_TSs x.C1]) fun l => ⟨dI (at_ l 1), dI (at_ l 2), d_TSs (at_ l 3)⟩
def tt_f1s_5 (D_f1s_5 : AU X_f1s_5 R_f1s) (x : X_f1s_5) : TT Tryz.prog R_f1s :=
 (.ite (Bg x.HG x.Ly)
 (.call con_f2q (IntKind.u64.wrap x.HG) fun (y2 : R_f2q) =>
 (.need (A3 x.HG x.C1.l.n) <|
 (.need ((Nat.beq x.C1.l.n x.C1.l.n) && true) <|
 (.need ((true && true) && (Nat.beq x.C1.l.n x.C1.l.n)) <|
 (.AM S_f1s_5 D_f1s_5 (X_f1s_5.mk x.Ly (IntKind.i64.wrap (x.HG + 1)) (TSs.mk (Sl.mk x.C1.l.nil x.C1.l.n (fun i3 => (TSo.mk (cond (Nat.beq i3 ((0 : Nat) + (Int.toNat x.HG))) y2 (x.C1.l.get i3).AP) (cond (Nat.beq i3 ((0 : Nat) + (Int.toNat x.HG))) (x.C1.l.get ((0 : Nat) + (Int.toNat x.HG))).Value (x.C1.l.get i3).Value) (cond (Nat.beq i3 ((0 : Nat) + (Int.toNat x.HG))) (x.C1.l.get ((0 : Nat) + (Int.toNat x.HG))).Left (x.C1.l.get i3).Left)))) x.C1.AX)))))))
 (.ret ((Bx.mk false x.C1), 0)))
theorem sd_f1s_5 (D_f1s_5 : AU X_f1s_5 R_f1s) (x : X_f1s_5) : (tt_f1s_5 D_f1s_5 x).AJ :=
 (TT.sI (TT.sC fun _ => (TT.sN (TT.sN (TT.sN TT.sJ)))) TT.sR)
def D_f1s_5 : AU X_f1s_5 R_f1s := AU.loop tt_f1s_5
theorem ok_f1s_5 : AY J_f1s S_f1s_5 D_f1s_5 :=
 A5 fun D_f1s_5 h_5 => lk mxk (lbc h_5 rfl lbn) (sd_f1s_5 D_f1s_5)
def tt_f1s (x : X_f1s) : TT Tryz.prog R_f1s :=
 (.call con_f3s x fun (y1 : R_f3s) =>
 (.ite (!y1)
 (.ret ((Bx.mk true (TSs.mk (Sl.mk true 0 (fun _i2 => (TSo.mk 0 0 0))) 0)), 1))
 (.need ((((upto x.fst (Int.toNat x.fst)) && (Bm 0 x.fst)) && (room (Int.toNat x.fst) 24)) && (decide ((x.fst ≤ (9223372036854775807 : Int))))) <|
 (.need ((true && true) && (Nat.beq (Int.toNat x.fst) (Int.toNat x.fst))) <|
 (.AM S_f1s_5 D_f1s_5 (X_f1s_5.mk (((Int.toNat x.fst) : Nat) : Int) 0 (TSs.mk (Sl.mk false (Int.toNat x.fst) (fun _i2 => (TSo.mk 0 0 0))) x.snd)))))))
theorem sd_f1s (x : X_f1s) : (tt_f1s x).AJ :=
 (TT.sC fun _ => (TT.sI TT.sR (TT.sN (TT.sN TT.sJ))))
def D_f1s : AU X_f1s R_f1s := .of tt_f1s
def con_f1s : BC Tryz.prog :=
 Br 74 J_f1s S_f1s D_f1s 2 0 [.any, .any] (lk mxk (lbc ok_f1s_5 rfl lbn) sd_f1s)
abbrev X_f44 : Type := TRg
abbrev R_f44 : Type := Bool
def J_f44 : BH Tryz.prog :=
 BN Tryz.prog Tryz.f75 12 [(1, 3)] [] [] [] [.any] [] [] R_f44 [] fun y => [V.bool y]
def S_f44 : AO :=
 Ah Tryz.f75 1 0 X_f44 (fun x => [e_TRg x]) fun l => (d_TRg (at_ l 0))
def tt_f44 (x : X_f44) : TT Tryz.prog R_f44 :=
 (.ite (AW x.Kind 1)
 (.ret (AW x.AR 1))
 (.ite (AW x.Kind 2)
 (.ret true)
 (.ret false)))
theorem sd_f44 (x : X_f44) : (tt_f44 x).AJ :=
 (TT.sI TT.sR (TT.sI TT.sR TT.sR))
def D_f44 : AU X_f44 R_f44 := .of tt_f44
def con_f44 : BC Tryz.prog :=
 Br 75 J_f44 S_f44 D_f44 1 0 [.any] (lk mxk lbn sd_f44)
abbrev O8 : Type := (Sl Int)
def LN : O8 → V := (UF 36 1 (V.int .u64))
def S5 : V → O8 := (Lk dI)
def Oi : Sh := (.A7 36 1 (V.int .u64 0))
structure TRc where
 tail : Int
 AD : (Sl Int)
def d_TRc (v : V) : TRc :=
 ⟨dI (fd v 0), S5 (fd v 1)⟩
def e_TRc (x : TRc) : V :=
 V.cons ((V.int .u64) x.tail) (V.cons (LN x.AD) (V.unit))
theorem nu_e_TRc (x : TRc) : (e_TRc x).Ch := ⟨trivial, (fun _ _ => trivial : ∀ y, (LN y).Ch) x.AD, trivial⟩
def sh_TRc : Sh := (.cons .any (.cons Oi .any))
structure TRr where
 AA : TRc
 s : (Bx TSs)
 most : Int
 closed : Bool
def d_TRr (v : V) : TRr :=
 ⟨d_TRc (fd v 0), dbox_TSs (fd v 1), dI (fd v 2), dB (fd v 3)⟩
def e_TRr (x : TRr) : V :=
 V.cons (e_TRc x.AA) (V.cons (ebox_TSs x.s) (V.cons ((V.int .u64) x.most) (V.cons (V.bool x.closed) (V.unit))))
theorem nu_e_TRr (x : TRr) : (e_TRr x).Ch := ⟨(nu_e_TRc : ∀ y, (e_TRc y).Ch) x.AA, (fun _ => (nu_e_TSs) _ : ∀ y, (ebox_TSs y).Ch) x.s, trivial, trivial, trivial⟩
def sh_TRr : Sh := (.cons sh_TRc (.cons hbox_TSs .any))
abbrev Dbox_TRr : Type := (Bx TRr)
def ebox_TRr : Dbox_TRr → V := (eBx e_TRr)
def dbox_TRr : V → Dbox_TRr := (dBx d_TRr)
def hbox_TRr : Sh := (.box (e_TRr (d_TRr .undef)))
abbrev X_f2p : Type := TRg
abbrev R_f2p : Type := (Bx TRr) × Int
def J_f2p : BH Tryz.prog :=
 BN Tryz.prog Tryz.f39 31 [(1, 3), (6, 1), (23, 1), (25, 1)] [] [] [.Eg 2] [hbox_TRr, .any] [] [con_f44, con_f1s] R_f2p [] fun y => [V.CN (V.cons (ebox_TRr y.1) (V.cons ((V.int .i64) y.2) (V.unit)))]
def S_f2p : AO :=
 Ah Tryz.f39 1 0 X_f2p (fun x => [e_TRg x]) fun l => (d_TRg (at_ l 0))
structure X_f2p_4 where
 Ns : TRg
 s_4 : (Bx TSs)
def S_f2p_4 : AO :=
 Ad Tryz.f39 4 [(1, .any), (4, hbox_TSs)] [] [] X_f2p_4 (fun x => [(CU e_TRg) x.Ns, ebox_TSs x.s_4]) fun l => ⟨(CV d_TRg) (at_ l 0), dbox_TSs (at_ l 1)⟩
def tt_f2p_4 (x : X_f2p_4) : TT Tryz.prog R_f2p :=
 (.need ((((upto x.Ns.AR (Int.toNat x.Ns.AR)) && (Bm 0 x.Ns.AR)) && (room (Int.toNat x.Ns.AR) 8)) && (decide ((x.Ns.AR ≤ (9223372036854775807 : Int))))) <|
 (.ret ((Bx.mk false (TRr.mk (TRc.mk 0 (Sl.mk false (Int.toNat x.Ns.AR) (fun _i1 => (0 : Int)))) x.s_4 (IntKind.u64.wrap x.Ns.DE) false)), 0)))
theorem sd_f2p_4 (x : X_f2p_4) : (tt_f2p_4 x).AJ :=
 (TT.sN TT.sR)
def D_f2p_4 : AU X_f2p_4 R_f2p := .of tt_f2p_4
theorem ok_f2p_4 : AY J_f2p S_f2p_4 D_f2p_4 :=
 lk mxk lbn sd_f2p_4
def tt_f2p (x : X_f2p) : TT Tryz.prog R_f2p :=
 (.call con_f1s (x.DE, x.AR) fun (y1 : R_f1s) =>
 (.ite (!(AW y1.snd 0))
 (.ret ((Bx.mk true (TRr.mk (TRc.mk 0 (Sl.mk true 0 (fun _i2 => (0 : Int)))) (Bx.mk true (TSs.mk (Sl.mk true 0 (fun _i2 => (TSo.mk 0 0 0))) 0)) 0 false)), 1))
 (.call con_f44 x fun (y2 : R_f44) =>
 (.ite (!y2)
 (.ret ((Bx.mk true (TRr.mk (TRc.mk 0 (Sl.mk true 0 (fun _i3 => (0 : Int)))) (Bx.mk true (TSs.mk (Sl.mk true 0 (fun _i3 => (TSo.mk 0 0 0))) 0)) 0 false)), 1))
 (.AM S_f2p_4 D_f2p_4 (X_f2p_4.mk x y1.fst))))))
theorem sd_f2p (x : X_f2p) : (tt_f2p x).AJ :=
 (TT.sC fun _ => (TT.sI TT.sR (TT.sC fun _ => (TT.sI TT.sR TT.sJ))))
def D_f2p : AU X_f2p R_f2p := .of tt_f2p
def con_f2p : BC Tryz.prog :=
 Br 39 J_f2p S_f2p D_f2p 1 0 [.any] (lk mxk (lbc ok_f2p_4 rfl lbn) sd_f2p)
abbrev Dsl_box_TRr : Type := (Sl (Bx TRr))
def esl_box_TRr : Dsl_box_TRr → V := (L4 none 1 ebox_TRr)
def dsl_box_TRr : V → Dsl_box_TRr := (Lk dbox_TRr)
def hsl_box_TRr : Sh := (.sl none 1 (ebox_TRr (dbox_TRr .undef)))
abbrev Qi : Type := (Sl Int)
def BB : Qi → V := (L4 none 1 (V.int .u64))
def BV : V → Qi := (Lk dI)
def BJ : Sh := (.sl none 1 (V.int .u64 0))
structure TTh where
 At : Int
 Phase : Int
 Ring : Int
 Status : Int
 AG : Int
 Ae : (Nat → Int)
 Seen : (Sl Int)
def d_TTh (v : V) : TTh :=
 ⟨dI (fd v 0), dI (fd v 1), dI (fd v 2), dI (fd v 3), dI (fd v 4), (dArr dI) (fd v 5), BV (fd v 6)⟩
def e_TTh (x : TTh) : V :=
 V.cons ((V.int .i64) x.At) (V.cons ((V.int .i64) x.Phase) (V.cons ((V.int .i64) x.Ring) (V.cons ((V.int .i64) x.Status) (V.cons ((V.int .u64) x.AG) (V.cons ((UG 1 8 (V.int .u64)) x.Ae) (V.cons (BB x.Seen) (V.unit)))))))
theorem nu_e_TTh (x : TTh) : (e_TTh x).Ch := ⟨trivial, trivial, trivial, trivial, trivial, (fun _ _ => trivial : ∀ y, ((UG 1 8 (V.int .u64)) y).Ch) x.Ae, trivial, trivial⟩
def sh_TTh : Sh := (.cons .any (.cons .any (.cons .any (.cons .any (.cons .any (.cons .any (.cons BJ .any)))))))
abbrev Dosl_TTh : Type := (Sl TTh)
def eosl_TTh : Dosl_TTh → V := (UF 71 14 e_TTh)
def dosl_TTh : V → Dosl_TTh := (Lk d_TTh)
def hosl_TTh : Sh := (.A7 71 14 (e_TTh (d_TTh .undef)))
abbrev Dosl_box_TRr : Type := (Sl (Bx TRr))
def eosl_box_TRr : Dosl_box_TRr → V := (UF 88 1 ebox_TRr)
def dosl_box_TRr : V → Dosl_box_TRr := (Lk dbox_TRr)
def hosl_box_TRr : Sh := (.A7 88 1 (ebox_TRr (dbox_TRr .undef)))
structure TFa where
 p : TPg
 threads : (Sl TTh)
 rings : (Sl (Bx TRr))
 now : Int
 reads : Int
 ended : Bool
def d_TFa (v : V) : TFa :=
 ⟨d_TPg (fd v 0), dosl_TTh (fd v 1), dosl_box_TRr (fd v 2), dI (fd v 3), dI (fd v 4), dB (fd v 5)⟩
def e_TFa (x : TFa) : V :=
 V.cons (e_TPg x.p) (V.cons (eosl_TTh x.threads) (V.cons (eosl_box_TRr x.rings) (V.cons ((V.int .u64) x.now) (V.cons ((V.int .u64) x.reads) (V.cons (V.bool x.ended) (V.unit))))))
theorem nu_e_TFa (x : TFa) : (e_TFa x).Ch := ⟨(nu_e_TPg : ∀ y, (e_TPg y).Ch) x.p, (fun _ _ => (nu_e_TTh) _ : ∀ y, (eosl_TTh y).Ch) x.threads, (fun _ _ => (fun _ => (nu_e_TRr) _) _ : ∀ y, (eosl_box_TRr y).Ch) x.rings, trivial, trivial, trivial, trivial⟩
def sh_TFa : Sh := (.cons sh_TPg (.cons hosl_TTh (.cons hosl_box_TRr .any)))
abbrev Dbox_TFa : Type := (Bx TFa)
def ebox_TFa : Dbox_TFa → V := (eBx e_TFa)
def dbox_TFa : V → Dbox_TFa := (dBx d_TFa)
def hbox_TFa : Sh := (.box (e_TFa (d_TFa .undef)))
def e_TFa_2 (x : TFa) : V :=
 V.cons (e_TPg x.p) (V.cons (eosl_TTh x.threads) (V.cons (eosl_box_TRr x.rings) (V.cons ((V.int .u64) x.now) (V.cons ((V.int .u64) x.reads) (V.cons (V.bool x.ended) (V.unit))))))
theorem nu_e_TFa_2 (x : TFa) : (e_TFa_2 x).Ch := ⟨(nu_e_TPg : ∀ y, (e_TPg y).Ch) x.p, (fun _ _ => (nu_e_TTh) _ : ∀ y, (eosl_TTh y).Ch) x.threads, (fun _ _ => (fun _ => (nu_e_TRr) _) _ : ∀ y, (eosl_box_TRr y).Ch) x.rings, trivial, trivial, trivial, trivial⟩
def sh_TFa_2 : Sh := (.cons sh_TPg (.cons hosl_TTh (.cons hosl_box_TRr .any)))
abbrev X_f19 : Type := TPg
abbrev R_f19 : Type := (Bx TFa) × Int
def J_f19 : BH Tryz.prog :=
 BN Tryz.prog Tryz.f13 44 [(1, 3), (17, 1), (27, 1), (36, 1), (37, 1), (38, 1)] [] [] [.Eg 2] [hbox_TFa, .any] [] [con_f3a, con_f10, con_f2p] R_f19 [] fun y => [V.CN (V.cons (ebox_TFa y.1) (V.cons ((V.int .i64) y.2) (V.unit)))]
def S_f19 : AO :=
 Ah Tryz.f13 1 0 X_f19 (fun x => [e_TPg x]) fun l => (d_TPg (at_ l 0))
structure X_f19_5 where
 Ly : (Sl TRg)
 HG : Int
 DH : Int
 CZ : TFa
def S_f19_5 : AO :=
 Ad Tryz.f13 5 [(4, .any), (21, hsl_TRg), (22, .any), (23, .any)] [] [(.loc 19 0, sh_TFa_2)] X_f19_5 (fun x => [(V.ptr (.loc 19 0) []), esl_TRg x.Ly, (V.int .i64) x.HG, (V.int .i64) x.DH, e_TFa_2 x.CZ]) fun l => ⟨dsl_TRg (at_ l 1), dI (at_ l 2), dI (at_ l 3), d_TFa (at_ l 4)⟩
def tt_f19_5 (D_f19_5 : AU X_f19_5 R_f19) (x : X_f19_5) : TT Tryz.prog R_f19 :=
 (.ite (Bg x.DH x.HG)
 (.need (A3 x.DH x.Ly.n) <|
 (.call con_f2p (x.Ly.get (Int.toNat x.DH)) fun (y2 : R_f2p) =>
 (.need (true && (room (x.CZ.rings.n + 1) 8)) <|
 (.AM S_f19_5 D_f19_5 (X_f19_5.mk x.Ly x.HG (IntKind.i64.wrap (x.DH + 1)) (TFa.mk x.CZ.p x.CZ.threads (Sl.mk (cond (Nat.beq 1 0) x.CZ.rings.nil false) (x.CZ.rings.n + 1) (fun i3 => (Bx.mk (cond (Nat.blt i3 x.CZ.rings.n) (x.CZ.rings.get i3).nil y2.fst.nil) (TRr.mk (TRc.mk (cond (Nat.blt i3 x.CZ.rings.n) (x.CZ.rings.get i3).x.AA.tail y2.fst.x.AA.tail) (Sl.mk (cond (Nat.blt i3 x.CZ.rings.n) (x.CZ.rings.get i3).x.AA.AD.nil y2.fst.x.AA.AD.nil) (cond (Nat.blt i3 x.CZ.rings.n) (x.CZ.rings.get i3).x.AA.AD.n y2.fst.x.AA.AD.n) (fun i4 => (cond (Nat.blt i3 x.CZ.rings.n) ((x.CZ.rings.get i3).x.AA.AD.get i4) (y2.fst.x.AA.AD.get i4))))) (Bx.mk (cond (Nat.blt i3 x.CZ.rings.n) (x.CZ.rings.get i3).x.s.nil y2.fst.x.s.nil) (TSs.mk (Sl.mk (cond (Nat.blt i3 x.CZ.rings.n) (x.CZ.rings.get i3).x.s.x.l.nil y2.fst.x.s.x.l.nil) (cond (Nat.blt i3 x.CZ.rings.n) (x.CZ.rings.get i3).x.s.x.l.n y2.fst.x.s.x.l.n) (fun i4 => (TSo.mk (cond (Nat.blt i3 x.CZ.rings.n) ((x.CZ.rings.get i3).x.s.x.l.get i4).AP (y2.fst.x.s.x.l.get i4).AP) (cond (Nat.blt i3 x.CZ.rings.n) ((x.CZ.rings.get i3).x.s.x.l.get i4).Value (y2.fst.x.s.x.l.get i4).Value) (cond (Nat.blt i3 x.CZ.rings.n) ((x.CZ.rings.get i3).x.s.x.l.get i4).Left (y2.fst.x.s.x.l.get i4).Left)))) (cond (Nat.blt i3 x.CZ.rings.n) (x.CZ.rings.get i3).x.s.x.AX y2.fst.x.s.x.AX))) (cond (Nat.blt i3 x.CZ.rings.n) (x.CZ.rings.get i3).x.most y2.fst.x.most) (cond (Nat.blt i3 x.CZ.rings.n) (x.CZ.rings.get i3).x.closed y2.fst.x.closed))))) x.CZ.now x.CZ.reads x.CZ.ended))))))
 (.ret ((Bx.mk false x.CZ), 0)))
theorem sd_f19_5 (D_f19_5 : AU X_f19_5 R_f19) (x : X_f19_5) : (tt_f19_5 D_f19_5 x).AJ :=
 (TT.sI (TT.sN (TT.sC fun _ => (TT.sN TT.sJ))) TT.sR)
def D_f19_5 : AU X_f19_5 R_f19 := AU.loop tt_f19_5
theorem ok_f19_5 : AY J_f19 S_f19_5 D_f19_5 :=
 A5 fun D_f19_5 h_5 => lk mxk (lbc h_5 rfl lbn) (sd_f19_5 D_f19_5)
def tt_f19 (x : X_f19) : TT Tryz.prog R_f19 :=
 (.call con_f3a x fun (y1 : R_f3a) =>
 (.ite (!y1)
 (.ret ((Bx.mk true (TFa.mk (TPg.mk (Sl.mk true 0 (fun _i2 => (TRg.mk 0 0 0))) (Sl.mk true 0 (fun _i2 => (Sl.mk true 0 (fun _i3 => (TIn.mk 0 0 0 0 0 0)))))) (Sl.mk true 0 (fun _i2 => (TTh.mk 0 0 0 0 0 (fun _i3 => (0 : Int)) (Sl.mk true 0 (fun _i3 => (0 : Int)))))) (Sl.mk true 0 (fun _i2 => (Bx.mk true (TRr.mk (TRc.mk 0 (Sl.mk true 0 (fun _i3 => (0 : Int)))) (Bx.mk true (TSs.mk (Sl.mk true 0 (fun _i3 => (TSo.mk 0 0 0))) 0)) 0 false)))) 0 0 false)), 1))
 (.call con_f10 x fun (y2 : R_f10) =>
 (.need ((((upto ((x.AB.n : Nat) : Int) (Int.toNat ((x.AB.n : Nat) : Int))) && (Bm 0 ((x.AB.n : Nat) : Int))) && (room (Int.toNat ((x.AB.n : Nat) : Int)) 128)) && (decide ((((x.AB.n : Nat) : Int) ≤ (9223372036854775807 : Int))))) <|
 (.AM S_f19_5 D_f19_5 (X_f19_5.mk x.AF ((x.AF.n : Nat) : Int) 0 (TFa.mk y2 (Sl.mk false (Int.toNat ((x.AB.n : Nat) : Int)) (fun _i3 => (TTh.mk 0 0 0 0 0 (fun _i4 => (0 : Int)) (Sl.mk true 0 (fun _i4 => (0 : Int)))))) (Sl.mk true 0 (fun _i3 => (Bx.mk true (TRr.mk (TRc.mk 0 (Sl.mk true 0 (fun _i4 => (0 : Int)))) (Bx.mk true (TSs.mk (Sl.mk true 0 (fun _i4 => (TSo.mk 0 0 0))) 0)) 0 false)))) 0 0 false)))))))
theorem sd_f19 (x : X_f19) : (tt_f19 x).AJ :=
 (TT.sC fun _ => (TT.sI TT.sR (TT.sC fun _ => (TT.sN TT.sJ))))
def D_f19 : AU X_f19 R_f19 := .of tt_f19
def con_f19 : BC Tryz.prog :=
 Br 13 J_f19 S_f19 D_f19 1 0 [sh_TPg] (lk mxk (lbc ok_f19_5 rfl lbn) sd_f19)
abbrev Dsl_TTh : Type := (Sl TTh)
def esl_TTh : Dsl_TTh → V := (L4 none 14 e_TTh)
def dsl_TTh : V → Dsl_TTh := (Lk d_TTh)
def hsl_TTh : Sh := (.sl none 14 (e_TTh (d_TTh .undef)))
abbrev X_f1b : Type := Int × TFa
abbrev R_f1b : Type := Bool
abbrev RR_f1b : Type := Bool × TFa
abbrev p_f1b (y : RR_f1b) : TFa := y.2
abbrev w_f1b (x : X_f1b) : TFa := x.2
def J_f1b : BH Tryz.prog :=
 BN Tryz.prog Tryz.f77 20 [] [] [] [.back (.loc 16 0)] [.any] [sh_TFa] [] RR_f1b [] fun y => [V.bool y.1, e_TFa y.2]
def S_f1b : AO :=
 Ah Tryz.f77 2 1 X_f1b (fun x => [(V.ptr (.par 0) []), (V.int .i64) x.1, e_TFa x.2]) fun l => (dI (at_ l 1), d_TFa (at_ l 2))
def tt_f1b (x : X_f1b) : TT Tryz.prog RR_f1b :=
 (.ite (Bm 0 x.fst)
 (.need ((true && true) && (Nat.beq x.snd.threads.n x.snd.threads.n)) <|
 (.ret ((Bg x.fst ((x.snd.threads.n : Nat) : Int)), x.snd)))
 (.ret (false, x.snd)))
theorem sd_f1b (x : X_f1b) : (tt_f1b x).AJ :=
 (TT.sI (TT.sN TT.sR) TT.sR)
theorem roT_f1b (x : X_f1b) : TT.Ro p_f1b (w_f1b x) (tt_f1b x) :=
 (TT.rI (TT.rN (TT.rR rfl)) (TT.rR rfl))
def D_f1b : AU X_f1b R_f1b := .ro (.of tt_f1b) (fun y => (y.1)) (fun y x => (y, x.2)) fun x y h => congrArg (fun o => (y.1, o)) (roT_f1b x y h)
def con_f1b : BC Tryz.prog :=
 DT 77 J_f1b S_f1b (.of tt_f1b) D_f1b (fun y x => (y, x.2)) (fun y => V.bool y) 2 1 [.any, .any] (lk mxk lbn sd_f1b) (fun x => ⟨(nu_e_TFa : ∀ y, (e_TFa y).Ch) (x.2), trivial⟩)
abbrev X_f33 : Type := TIn × (Sl TIn)
abbrev R_f33 : Type := Bool
def J_f33 : BH Tryz.prog :=
 BN Tryz.prog Tryz.f151 19 [(2, 3)] [] [] [] [.any] [] [con_f3k, con_f3j] R_f33 [] fun y => [V.bool y]
def S_f33 : AO :=
 Ah Tryz.f151 2 0 X_f33 (fun x => [e_TIn x.1, (CU esl_TIn) x.2]) fun l => (d_TIn (at_ l 0), (CV dsl_TIn) (at_ l 1))
def tt_f33 (x : X_f33) : TT Tryz.prog R_f33 :=
 (.call con_f3j x.fst fun (y1 : R_f3j) =>
 (.ite (!y1)
 (.ret true)
 (.call con_f3k x.fst fun (y2 : R_f3k) =>
 (.ite y2
 (.ret (Bg (IntKind.u64.wrap ((x.snd.n : Nat) : Int)) x.fst.K))
 (.ret false)))))
theorem sd_f33 (x : X_f33) : (tt_f33 x).AJ :=
 (TT.sC fun _ => (TT.sI TT.sR (TT.sC fun _ => (TT.sI TT.sR TT.sR))))
def D_f33 : AU X_f33 R_f33 := .of tt_f33
def con_f33 : BC Tryz.prog :=
 Br 151 J_f33 S_f33 D_f33 2 0 [.any, .any] (lk mxk lbn sd_f33)
abbrev X_f6 : Type := (Sl TIn) × ((Sl TIn))
abbrev R_f6 : Type := Int
def J_f6 : BH Tryz.prog :=
 BN Tryz.prog Tryz.f180 19 [] [] [] [] [.any] [] [con_f33] R_f6 [] fun y => [(V.int .i64) y]
def S_f6 : AO :=
 Ah Tryz.f180 2 0 X_f6 (fun x => [esl_TIn x.1, (fun x : ((Sl TIn)) => V.fn 151 (V.cons ((CU esl_TIn) x) (V.unit))) x.2]) fun l => (dsl_TIn (at_ l 0), (fun v => ((CV dsl_TIn) (fd (fnc v) 0) : ((Sl TIn)))) (at_ l 1))
structure X_f6_2 where
 TV : (Sl TIn)
 f_1 : ((Sl TIn))
 q_7 : Int
 VB : Int
def S_f6_2 : AO :=
 Ad Tryz.f180 2 [(0, hsl_TIn), (1, .any), (7, .any), (8, .any)] [] [] X_f6_2 (fun x => [esl_TIn x.TV, (fun x : ((Sl TIn)) => V.fn 151 (V.cons ((CU esl_TIn) x) (V.unit))) x.f_1, (V.int .i64) x.q_7, (V.int .i64) x.VB]) fun l => ⟨dsl_TIn (at_ l 0), (fun v => ((CV dsl_TIn) (fd (fnc v) 0) : ((Sl TIn)))) (at_ l 1), dI (at_ l 2), dI (at_ l 3)⟩
def tt_f6_2 (D_f6_2 : AU X_f6_2 R_f6) (x : X_f6_2) : TT Tryz.prog R_f6 :=
 (.ite (Bg x.VB x.q_7)
 (.need (A3 x.VB x.TV.n) <|
 (.call con_f33 ((x.TV.get (Int.toNat x.VB)), x.f_1) fun (y2 : R_f33) =>
 (.ite y2
 (.ret x.VB)
 (.AM S_f6_2 D_f6_2 (X_f6_2.mk x.TV x.f_1 x.q_7 (IntKind.i64.wrap (x.VB + 1)))))))
 (.ret (-(1 : Int))))
theorem sd_f6_2 (D_f6_2 : AU X_f6_2 R_f6) (x : X_f6_2) : (tt_f6_2 D_f6_2 x).AJ :=
 (TT.sI (TT.sN (TT.sC fun _ => (TT.sI TT.sR TT.sJ))) TT.sR)
def D_f6_2 : AU X_f6_2 R_f6 := AU.loop tt_f6_2
theorem ok_f6_2 : AY J_f6 S_f6_2 D_f6_2 :=
 A5 fun D_f6_2 h_2 => lk mxk (lbc h_2 rfl lbn) (sd_f6_2 D_f6_2)
def tt_f6 (x : X_f6) : TT Tryz.prog R_f6 :=
 (.AM S_f6_2 D_f6_2 (X_f6_2.mk x.fst x.snd ((x.fst.n : Nat) : Int) 0))
theorem sd_f6 (x : X_f6) : (tt_f6 x).AJ :=
 TT.sJ
def D_f6 : AU X_f6 R_f6 := .of tt_f6
def con_f6 : BC Tryz.prog :=
 Br 180 J_f6 S_f6 D_f6 2 0 [hsl_TIn, .any] (lk mxk (lbc ok_f6_2 rfl lbn) sd_f6)
abbrev X_fn : Type := (Sl TIn) × ((Sl TIn))
abbrev R_fn : Type := Bool
def J_fn : BH Tryz.prog :=
 BN Tryz.prog Tryz.f150 9 [(5, 1)] [] [] [] [.any] [] [con_f6] R_fn [] fun y => [V.bool y]
def S_fn : AO :=
 Ah Tryz.f150 2 0 X_fn (fun x => [esl_TIn x.1, (fun x : ((Sl TIn)) => V.fn 151 (V.cons ((CU esl_TIn) x) (V.unit))) x.2]) fun l => (dsl_TIn (at_ l 0), (fun v => ((CV dsl_TIn) (fd (fnc v) 0) : ((Sl TIn)))) (at_ l 1))
def tt_fn (x : X_fn) : TT Tryz.prog R_fn :=
 (.call con_f6 x fun (y1 : R_f6) =>
 (.ret (Bm 0 y1)))
theorem sd_fn (x : X_fn) : (tt_fn x).AJ :=
 (TT.sC fun _ => TT.sR)
def D_fn : AU X_fn R_fn := .of tt_fn
def con_fn : BC Tryz.prog :=
 Br 150 J_fn S_fn D_fn 2 0 [hsl_TIn, .any] (lk mxk lbn sd_fn)
abbrev X_f3p : Type := (Sl TIn)
abbrev R_f3p : Type := Bool
def J_f3p : BH Tryz.prog :=
 BN Tryz.prog Tryz.f100 10 [(1, 3)] [] [] [] [.any] [] [con_fn] R_f3p [] fun y => [V.bool y]
def S_f3p : AO :=
 Ah Tryz.f100 1 0 X_f3p (fun x => [esl_TIn x]) fun l => (dsl_TIn (at_ l 0))
def tt_f3p (x : X_f3p) : TT Tryz.prog R_f3p :=
 (.ite (Bg 256 ((x.n : Nat) : Int))
 (.ret false)
 (.call con_fn (x, x) fun (y1 : R_fn) =>
 (.ret (!y1))))
theorem sd_f3p (x : X_f3p) : (tt_f3p x).AJ :=
 (TT.sI TT.sR (TT.sC fun _ => TT.sR))
def D_f3p : AU X_f3p R_f3p := .of tt_f3p
def con_f3p : BC Tryz.prog :=
 Br 100 J_f3p S_f3p D_f3p 1 0 [hsl_TIn] (lk mxk lbn sd_f3p)
abbrev X_fw : Type := (Sl TIn) × TTh
abbrev R_fw : Type := Bool
def J_fw : BH Tryz.prog :=
 BN Tryz.prog Tryz.f58 88 [(3, 3), (62, 1)] [] [] [] [.any] [] [con_f3p] R_fw [] fun y => [V.bool y]
def S_fw : AO :=
 Ah Tryz.f58 2 0 X_fw (fun x => [esl_TIn x.1, e_TTh x.2]) fun l => (dsl_TIn (at_ l 0), d_TTh (at_ l 1))
structure X_fw_3 where
 B2 : (Sl TIn)
 EK : TTh
def S_fw_3 : AO :=
 Ad Tryz.f58 3 [(0, hsl_TIn), (3, .any)] [] [] X_fw_3 (fun x => [esl_TIn x.B2, (CU e_TTh) x.EK]) fun l => ⟨dsl_TIn (at_ l 0), (CV d_TTh) (at_ l 1)⟩
structure X_fw_7 where
 B2 : (Sl TIn)
 EK : TTh
def S_fw_7 : AO :=
 Ad Tryz.f58 7 [(0, hsl_TIn), (3, .any)] [] [] X_fw_7 (fun x => [esl_TIn x.B2, (CU e_TTh) x.EK]) fun l => ⟨dsl_TIn (at_ l 0), (CV d_TTh) (at_ l 1)⟩
def tt_fw_7 (x : X_fw_7) : TT Tryz.prog R_fw :=
 (.need (A3 x.EK.At x.B2.n) <|
 (.need (A3 (IntKind.i64.wrap (x.EK.Phase - 1)) 2) <|
 (.ite (AW (x.B2.get (Int.toNat x.EK.At)).Op (cond (Nat.beq (Int.toNat (IntKind.i64.wrap (x.EK.Phase - 1))) 0) (18 : Int) (19 : Int)))
 (.ite (AW (x.B2.get (Int.toNat x.EK.At)).C x.EK.Ring)
 (.ret (Bg x.EK.AG 4611686018427387904))
 (.ret false))
 (.ret false))))
theorem sd_fw_7 (x : X_fw_7) : (tt_fw_7 x).AJ :=
 (TT.sN (TT.sN (TT.sI (TT.sI TT.sR TT.sR) TT.sR)))
def D_fw_7 : AU X_fw_7 R_fw := .of tt_fw_7
theorem ok_fw_7 : AY J_fw S_fw_7 D_fw_7 :=
 lk mxk lbn sd_fw_7
def tt_fw_3 (x : X_fw_3) : TT Tryz.prog R_fw :=
 (.ite (AW x.EK.Phase 0)
 (.ite (AW x.EK.Ring 0)
 (.ret (AW x.EK.AG 0))
 (.ret false))
 (.ite (!(AW x.EK.Status 0))
 (.ret false)
 (.ite (AW x.EK.At ((x.B2.n : Nat) : Int))
 (.ret false)
 (.AM S_fw_7 D_fw_7 (X_fw_7.mk x.B2 x.EK)))))
theorem sd_fw_3 (x : X_fw_3) : (tt_fw_3 x).AJ :=
 (TT.sI (TT.sI TT.sR TT.sR) (TT.sI TT.sR (TT.sI TT.sR TT.sJ)))
def D_fw_3 : AU X_fw_3 R_fw := .of tt_fw_3
theorem ok_fw_3 : AY J_fw S_fw_3 D_fw_3 :=
 lk mxk (lbc ok_fw_7 rfl lbn) sd_fw_3
def tt_fw (x : X_fw) : TT Tryz.prog R_fw :=
 (.call con_f3p x.fst fun (y1 : R_f3p) =>
 (.ite (!y1)
 (.ret false)
 (.ite (Bg x.snd.At 0)
 (.ret false)
 (.ite (Bg ((x.fst.n : Nat) : Int) x.snd.At)
 (.ret false)
 (.ite (Bg x.snd.Status 0)
 (.ret false)
 (.ite (Bg 2 x.snd.Status)
 (.ret false)
 (.ite (Bg x.snd.Phase 0)
 (.ret false)
 (.ite (Bg 2 x.snd.Phase)
 (.ret false)
 (.AM S_fw_3 D_fw_3 (X_fw_3.mk x.fst x.snd))))))))))
theorem sd_fw (x : X_fw) : (tt_fw x).AJ :=
 (TT.sC fun _ => (TT.sI TT.sR (TT.sI TT.sR (TT.sI TT.sR (TT.sI TT.sR (TT.sI TT.sR (TT.sI TT.sR (TT.sI TT.sR TT.sJ))))))))
def D_fw : AU X_fw R_fw := .of tt_fw
def con_fw : BC Tryz.prog :=
 Br 58 J_fw S_fw D_fw 2 0 [hsl_TIn, sh_TTh] (lk mxk (lbc ok_fw_7 rfl (lbc ok_fw_3 rfl lbn)) sd_fw)
abbrev X_f40 : Type := Int
abbrev R_f40 : Type := Bool
def J_f40 : BH Tryz.prog :=
 BN Tryz.prog Tryz.f194 9 [] [] [] [] [.any] [] [] R_f40 [] fun y => [V.bool y]
def S_f40 : AO :=
 Ah Tryz.f194 1 0 X_f40 (fun x => [(V.int .i64) x]) fun l => (dI (at_ l 0))
def tt_f40 (x : X_f40) : TT Tryz.prog R_f40 :=
 (.ite (Bm 18 x)
 (.ret (Bm x 25))
 (.ret false))
theorem sd_f40 (x : X_f40) : (tt_f40 x).AJ :=
 (TT.sI TT.sR TT.sR)
def D_f40 : AU X_f40 R_f40 := .of tt_f40
def con_f40 : BC Tryz.prog :=
 Br 194 J_f40 S_f40 D_f40 1 0 [.any] (lk mxk lbn sd_f40)
abbrev X_f3d : Type := Int × Int
abbrev R_f3d : Type := Int
def J_f3d : BH Tryz.prog :=
 BN Tryz.prog Tryz.f202 10 [] [] [] [] [.any] [] [] R_f3d [] fun y => [(V.int .u64) y]
def S_f3d : AO :=
 Ah Tryz.f202 2 0 X_f3d (fun x => [(V.int .u64) x.1, (V.int .u64) x.2]) fun l => (dI (at_ l 0), dI (at_ l 1))
def tt_f3d (x : X_f3d) : TT Tryz.prog R_f3d :=
 (.ite (AW x.snd 0)
 (.ret 0)
 (.need (!(AW x.snd 0)) <|
 (.ret (IntKind.u64.wrap (Int.tdiv x.fst x.snd)))))
theorem sd_f3d (x : X_f3d) : (tt_f3d x).AJ :=
 (TT.sI TT.sR (TT.sN TT.sR))
def D_f3d : AU X_f3d R_f3d := .of tt_f3d
def con_f3d : BC Tryz.prog :=
 Br 202 J_f3d S_f3d D_f3d 2 0 [.any, .any] (lk mxk lbn sd_f3d)
abbrev X_f45 : Type := Int × Int
abbrev R_f45 : Type := Int
def J_f45 : BH Tryz.prog :=
 BN Tryz.prog Tryz.f203 10 [] [] [] [] [.any] [] [] R_f45 [] fun y => [(V.int .u64) y]
def S_f45 : AO :=
 Ah Tryz.f203 2 0 X_f45 (fun x => [(V.int .u64) x.1, (V.int .u64) x.2]) fun l => (dI (at_ l 0), dI (at_ l 1))
def tt_f45 (x : X_f45) : TT Tryz.prog R_f45 :=
 (.ite (AW x.snd 0)
 (.ret 0)
 (.need (!(AW x.snd 0)) <|
 (.ret (Int.tmod x.fst x.snd))))
theorem sd_f45 (x : X_f45) : (tt_f45 x).AJ :=
 (TT.sI TT.sR (TT.sN TT.sR))
def D_f45 : AU X_f45 R_f45 := .of tt_f45
def con_f45 : BC Tryz.prog :=
 Br 203 J_f45 S_f45 D_f45 2 0 [.any, .any] (lk mxk lbn sd_f45)
abbrev X_f4b : Type := Bool
abbrev R_f4b : Type := Int
def J_f4b : BH Tryz.prog :=
 BN Tryz.prog Tryz.f204 4 [] [] [] [] [.any] [] [] R_f4b [] fun y => [(V.int .u64) y]
def S_f4b : AO :=
 Ah Tryz.f204 1 0 X_f4b (fun x => [V.bool x]) fun l => (dB (at_ l 0))
def tt_f4b (x : X_f4b) : TT Tryz.prog R_f4b :=
 (.ite x
 (.ret 1)
 (.ret 0))
theorem sd_f4b (x : X_f4b) : (tt_f4b x).AJ :=
 (TT.sI TT.sR TT.sR)
def D_f4b : AU X_f4b R_f4b := .of tt_f4b
def con_f4b : BC Tryz.prog :=
 Br 204 J_f4b S_f4b D_f4b 1 0 [.any] (lk mxk lbn sd_f4b)
abbrev X_f4d : Type := Int × Int × Int
abbrev R_f4d : Type := Int × Bool
def J_f4d : BH Tryz.prog :=
 BN Tryz.prog Tryz.f201 73 [] [] [] [] [.any, .any] [] [con_f4b, con_f3d, con_f45] R_f4d [] fun y => [V.CN (V.cons ((V.int .u64) y.1) (V.cons (V.bool y.2) (V.unit)))]
def S_f4d : AO :=
 Ah Tryz.f201 3 0 X_f4d (fun x => [(V.int .i64) x.1, (V.int .u64) x.2.1, (V.int .u64) x.2.2]) fun l => (dI (at_ l 0), dI (at_ l 1), dI (at_ l 2))
def tt_f4d (x : X_f4d) : TT Tryz.prog R_f4d :=
 (.ite (AW x.fst 3)
 (.ret ((IntKind.u64.wrap (x.snd.fst + x.snd.snd)), true))
 (.ite (AW x.fst 4)
 (.ret ((IntKind.u64.wrap (x.snd.fst - x.snd.snd)), true))
 (.ite (AW x.fst 5)
 (.ret ((IntKind.u64.wrap (x.snd.fst * x.snd.snd)), true))
 (.ite (AW x.fst 6)
 (.call con_f3d x.snd fun (y1 : R_f3d) =>
 (.ret (y1, true)))
 (.ite (AW x.fst 7)
 (.call con_f45 x.snd fun (y1 : R_f45) =>
 (.ret (y1, true)))
 (.ite (AW x.fst 8)
 (.ret ((Vm.bits .and IntKind.u64 x.snd.fst x.snd.snd), true))
 (.ite (AW x.fst 9)
 (.ret ((Vm.bits .or IntKind.u64 x.snd.fst x.snd.snd), true))
 (.ite (AW x.fst 10)
 (.ret ((Vm.bits .xor IntKind.u64 x.snd.fst x.snd.snd), true))
 (.ite (AW x.fst 11)
 (.ret ((shl IntKind.u64 x.snd.fst (Vm.bits .and IntKind.u64 x.snd.snd 63)), true))
 (.ite (AW x.fst 12)
 (.ret ((shr IntKind.u64 x.snd.fst (Vm.bits .and IntKind.u64 x.snd.snd 63)), true))
 (.ite (AW x.fst 13)
 (.call con_f4b (Bg x.snd.fst x.snd.snd) fun (y1 : R_f4b) =>
 (.ret (y1, true)))
 (.ite (AW x.fst 14)
 (.call con_f4b (AW x.snd.fst x.snd.snd) fun (y1 : R_f4b) =>
 (.ret (y1, true)))
 (.ret (0, false))))))))))))))
theorem sd_f4d (x : X_f4d) : (tt_f4d x).AJ :=
 (TT.sI TT.sR (TT.sI TT.sR (TT.sI TT.sR (TT.sI (TT.sC fun _ => TT.sR) (TT.sI (TT.sC fun _ => TT.sR) (TT.sI TT.sR (TT.sI TT.sR (TT.sI TT.sR (TT.sI TT.sR (TT.sI TT.sR (TT.sI (TT.sC fun _ => TT.sR) (TT.sI (TT.sC fun _ => TT.sR) TT.sR))))))))))))
def D_f4d : AU X_f4d R_f4d := .of tt_f4d
def con_f4d : BC Tryz.prog :=
 Br 201 J_f4d S_f4d D_f4d 3 0 [.any, .any, .any] (lk mxk lbn sd_f4d)
abbrev O7 : Type := (Sl Int)
def GR : O7 → V := (L4 (some 36) 1 (V.int .u64))
def Ir : V → O7 := (Lk dI)
def GP : Sh := (.sl (some 36) 1 (V.int .u64 0))
def e_TTh_6 (x : TTh) : V :=
 V.cons ((V.int .i64) x.At) (V.cons ((V.int .i64) x.Phase) (V.cons ((V.int .i64) x.Ring) (V.cons ((V.int .i64) x.Status) (V.cons ((V.int .u64) x.AG) (V.cons ((UG 1 8 (V.int .u64)) x.Ae) (V.cons (GR x.Seen) (V.unit)))))))
theorem nu_e_TTh_6 (x : TTh) : (e_TTh_6 x).Ch := ⟨trivial, trivial, trivial, trivial, trivial, (fun _ _ => trivial : ∀ y, ((UG 1 8 (V.int .u64)) y).Ch) x.Ae, trivial, trivial⟩
def sh_TTh_6 : Sh := (.cons .any (.cons .any (.cons .any (.cons .any (.cons .any (.cons .any (.cons GP .any)))))))
abbrev X_f34 : Type := TIn × TTh
abbrev R_f34 : Type := TTh
def J_f34 : BH Tryz.prog :=
 BN Tryz.prog Tryz.f195 90 [(2, 3), (17, 1)] [] [] [] [] [sh_TTh_6] [con_f4d] R_f34 [] fun y => [V.CN (V.unit), e_TTh_6 y]
def S_f34 : AO :=
 Ah Tryz.f195 2 1 X_f34 (fun x => [e_TIn x.1, (V.ptr (.par 0) []), e_TTh_6 x.2]) fun l => (d_TIn (at_ l 0), d_TTh (at_ l 2))
def tt_f34 (x : X_f34) : TT Tryz.prog R_f34 :=
 (.ite (AW x.fst.Op 1)
 (.need (A3 x.fst.A 8) <|
 (.ret (TTh.mk (IntKind.i64.wrap (x.snd.At + 1)) x.snd.Phase x.snd.Ring x.snd.Status x.snd.AG (fun i1 => (cond (Nat.beq i1 (Int.toNat x.fst.A)) x.fst.K (x.snd.Ae i1))) x.snd.Seen)))
 (.ite (AW x.fst.Op 2)
 (.need (A3 x.fst.B 8) <|
 (.need (A3 x.fst.A 8) <|
 (.ret (TTh.mk (IntKind.i64.wrap (x.snd.At + 1)) x.snd.Phase x.snd.Ring x.snd.Status x.snd.AG (fun i1 => (cond (Nat.beq i1 (Int.toNat x.fst.A)) (x.snd.Ae (Int.toNat x.fst.B)) (x.snd.Ae i1))) x.snd.Seen))))
 (.ite (AW x.fst.Op 15)
 (.ret (TTh.mk (IntKind.i64.wrap x.fst.K) x.snd.Phase x.snd.Ring x.snd.Status x.snd.AG x.snd.Ae x.snd.Seen))
 (.ite (AW x.fst.Op 16)
 (.need (A3 x.fst.A 8) <|
 (.ite ((AW (x.snd.Ae (Int.toNat x.fst.A)) 0) == (AW x.fst.Op 16))
 (.ret (TTh.mk (IntKind.i64.wrap x.fst.K) x.snd.Phase x.snd.Ring x.snd.Status x.snd.AG x.snd.Ae x.snd.Seen))
 (.ret (TTh.mk (IntKind.i64.wrap (x.snd.At + 1)) x.snd.Phase x.snd.Ring x.snd.Status x.snd.AG x.snd.Ae x.snd.Seen))))
 (.ite (AW x.fst.Op 17)
 (.need (A3 x.fst.A 8) <|
 (.ite ((AW (x.snd.Ae (Int.toNat x.fst.A)) 0) == (AW x.fst.Op 16))
 (.ret (TTh.mk (IntKind.i64.wrap x.fst.K) x.snd.Phase x.snd.Ring x.snd.Status x.snd.AG x.snd.Ae x.snd.Seen))
 (.ret (TTh.mk (IntKind.i64.wrap (x.snd.At + 1)) x.snd.Phase x.snd.Ring x.snd.Status x.snd.AG x.snd.Ae x.snd.Seen))))
 (.need (A3 x.fst.B 8) <|
 (.need (A3 x.fst.C 8) <|
 (.call con_f4d (x.fst.Op, ((x.snd.Ae (Int.toNat x.fst.B)), (x.snd.Ae (Int.toNat x.fst.C)))) fun (y1 : R_f4d) =>
 (.need (A3 x.fst.A 8) <|
 (.ret (TTh.mk (IntKind.i64.wrap (x.snd.At + 1)) x.snd.Phase x.snd.Ring x.snd.Status x.snd.AG (fun i2 => (cond (Nat.beq i2 (Int.toNat x.fst.A)) y1.fst (x.snd.Ae i2))) x.snd.Seen)))))))))))
theorem sd_f34 (x : X_f34) : (tt_f34 x).AJ :=
 (TT.sI (TT.sN TT.sR) (TT.sI (TT.sN (TT.sN TT.sR)) (TT.sI TT.sR (TT.sI (TT.sN (TT.sI TT.sR TT.sR)) (TT.sI (TT.sN (TT.sI TT.sR TT.sR)) (TT.sN (TT.sN (TT.sC fun _ => (TT.sN TT.sR)))))))))
def D_f34 : AU X_f34 R_f34 := .of tt_f34
def con_f34 : BC Tryz.prog :=
 Br 195 J_f34 S_f34 D_f34 2 1 [.any, .any] (lk mxk lbn sd_f34)
structure TAk where
 Kind : Int
 Ring : Int
 Mode : Int
 Reader : Int
 AG : Int
 Value : Int
def d_TAk (v : V) : TAk :=
 ⟨dI (fd v 0), dI (fd v 1), dI (fd v 2), dI (fd v 3), dI (fd v 4), dI (fd v 5)⟩
def e_TAk (x : TAk) : V :=
 V.cons ((V.int .i64) x.Kind) (V.cons ((V.int .i64) x.Ring) (V.cons ((V.int .i64) x.Mode) (V.cons ((V.int .i64) x.Reader) (V.cons ((V.int .u64) x.AG) (V.cons ((V.int .u64) x.Value) (V.unit))))))
theorem nu_e_TAk (x : TAk) : (e_TAk x).Ch := ⟨trivial, trivial, trivial, trivial, trivial, trivial, trivial⟩
abbrev X_f3q : Type := TIn × TTh
abbrev R_f3q : Type := TAk
def J_f3q : BH Tryz.prog :=
 BN Tryz.prog Tryz.f197 52 [(2, 3), (3, 3)] [] [] [] [.any] [] [] R_f3q [] fun y => [e_TAk y]
def S_f3q : AO :=
 Ah Tryz.f197 2 0 X_f3q (fun x => [e_TIn x.1, e_TTh x.2]) fun l => (d_TIn (at_ l 0), d_TTh (at_ l 1))
def tt_f3q (x : X_f3q) : TT Tryz.prog R_f3q :=
 (.ite (AW x.fst.Op 18)
 (.need (A3 x.fst.A 8) <|
 (.ret (TAk.mk 1 x.fst.C x.fst.D 0 0 (x.snd.Ae (Int.toNat x.fst.A)))))
 (.ite (AW x.fst.Op 19)
 (.ret (TAk.mk 2 x.fst.C x.fst.D (IntKind.i64.wrap x.fst.K) 0 0))
 (.ite (AW x.fst.Op 20)
 (.ret (TAk.mk 3 x.fst.C 0 0 0 0))
 (.ite (AW x.fst.Op 21)
 (.ret (TAk.mk 4 0 0 0 0 0))
 (.ite (AW x.fst.Op 22)
 (.ret (TAk.mk 5 0 0 0 0 0))
 (.ite (AW x.fst.Op 23)
 (.ret (TAk.mk 6 0 0 0 0 0))
 (.ite (AW x.fst.Op 24)
 (.need (A3 x.fst.A 8) <|
 (.ret (TAk.mk 7 0 0 0 0 (x.snd.Ae (Int.toNat x.fst.A)))))
 (.ret (TAk.mk 8 0 0 0 0 0)))))))))
theorem sd_f3q (x : X_f3q) : (tt_f3q x).AJ :=
 (TT.sI (TT.sN TT.sR) (TT.sI TT.sR (TT.sI TT.sR (TT.sI TT.sR (TT.sI TT.sR (TT.sI TT.sR (TT.sI (TT.sN TT.sR) TT.sR)))))))
def D_f3q : AU X_f3q R_f3q := .of tt_f3q
def con_f3q : BC Tryz.prog :=
 Br 197 J_f3q S_f3q D_f3q 2 0 [.any, sh_TTh] (lk mxk lbn sd_f3q)
abbrev X_f9 : Type := (Sl TIn) × TTh
abbrev R_f9 : Type := TTh × TAk
def J_f9 : BH Tryz.prog :=
 BN Tryz.prog Tryz.f172 97 [(10, 1), (16, 1), (21, 1), (35, 1), (40, 1), (77, 1), (87, 1), (89, 1), (90, 1)] [] [] [] [sh_TTh_6, .any] [] [con_f3i, con_f40, con_f3q, con_f34] R_f9 [] fun y => [V.CN (V.cons (e_TTh_6 y.1) (V.cons (e_TAk y.2) (V.unit)))]
def S_f9 : AO :=
 Ah Tryz.f172 2 0 X_f9 (fun x => [esl_TIn x.1, e_TTh_6 x.2]) fun l => (dsl_TIn (at_ l 0), d_TTh (at_ l 1))
structure X_f9_8 where
 B2 : (Sl TIn)
 Ko : Int
 BM : TTh
 CP : TTh
 BD : TAk
def S_f9_8 : AO :=
 Ad Tryz.f172 8 [(0, hsl_TIn), (3, .any), (4, .any), (5, .any), (48, .any)] [] [(.loc 3 0, sh_TTh_6), (.loc 4 0, sh_TTh_6), (.loc 5 0, .any)] X_f9_8 (fun x => [esl_TIn x.B2, (V.ptr (.loc 3 0) []), (V.ptr (.loc 4 0) []), (V.ptr (.loc 5 0) []), (V.int .i64) x.Ko, e_TTh_6 x.BM, e_TTh_6 x.CP, e_TAk x.BD]) fun l => ⟨dsl_TIn (at_ l 0), dI (at_ l 4), d_TTh (at_ l 5), d_TTh (at_ l 6), d_TAk (at_ l 7)⟩
structure X_f9_10 where
 B2 : (Sl TIn)
 Ko : Int
 BM : TTh
 CP : TTh
 BD : TAk
def S_f9_10 : AO :=
 Ad Tryz.f172 10 [(0, hsl_TIn), (3, .any), (4, .any), (5, .any), (48, .any)] [] [(.loc 3 0, sh_TTh_6), (.loc 4 0, sh_TTh_6), (.loc 5 0, .any)] X_f9_10 (fun x => [esl_TIn x.B2, (V.ptr (.loc 3 0) []), (V.ptr (.loc 4 0) []), (V.ptr (.loc 5 0) []), (V.int .i64) x.Ko, e_TTh_6 x.BM, e_TTh_6 x.CP, e_TAk x.BD]) fun l => ⟨dsl_TIn (at_ l 0), dI (at_ l 4), d_TTh (at_ l 5), d_TTh (at_ l 6), d_TAk (at_ l 7)⟩
structure X_f9_11 where
 B2 : (Sl TIn)
 Ko : Int
 BM : TTh
 CP : TTh
 BD : TAk
def S_f9_11 : AO :=
 Ad Tryz.f172 11 [(0, hsl_TIn), (3, .any), (4, .any), (5, .any), (48, .any)] [] [(.loc 3 0, sh_TTh_6), (.loc 4 0, sh_TTh_6), (.loc 5 0, .any)] X_f9_11 (fun x => [esl_TIn x.B2, (V.ptr (.loc 3 0) []), (V.ptr (.loc 4 0) []), (V.ptr (.loc 5 0) []), (V.int .i64) x.Ko, e_TTh_6 x.BM, e_TTh_6 x.CP, e_TAk x.BD]) fun l => ⟨dsl_TIn (at_ l 0), dI (at_ l 4), d_TTh (at_ l 5), d_TTh (at_ l 6), d_TAk (at_ l 7)⟩
structure X_f9_12 where
 B2 : (Sl TIn)
 BM : TTh
 CP : TTh
 BD : TAk
def S_f9_12 : AO :=
 Ad Tryz.f172 12 [(0, hsl_TIn), (3, .any), (4, .any), (5, .any)] [] [(.loc 3 0, sh_TTh_6), (.loc 4 0, sh_TTh_6), (.loc 5 0, .any)] X_f9_12 (fun x => [esl_TIn x.B2, (V.ptr (.loc 3 0) []), (V.ptr (.loc 4 0) []), (V.ptr (.loc 5 0) []), e_TTh_6 x.BM, e_TTh_6 x.CP, e_TAk x.BD]) fun l => ⟨dsl_TIn (at_ l 0), d_TTh (at_ l 4), d_TTh (at_ l 5), d_TAk (at_ l 6)⟩
def tt_f9_12 (x : X_f9_12) : TT Tryz.prog R_f9 :=
 (.ite (AW x.BM.At ((x.B2.n : Nat) : Int))
 (.ret (x.BM, (TAk.mk 8 0 0 0 0 0)))
 (.need (A3 x.BM.At x.B2.n) <|
 (.call con_f3i (x.B2.get (Int.toNat x.BM.At)).Op fun (y1 : R_f3i) =>
 (.ite y1
 (.ret (x.BM, (TAk.mk 9 0 0 0 0 0)))
 (.need (A3 x.BM.At x.B2.n) <|
 (.call con_f3q ((x.B2.get (Int.toNat x.BM.At)), x.BM) fun (y2 : R_f3q) =>
 (.ret (x.BM, y2))))))))
theorem sd_f9_12 (x : X_f9_12) : (tt_f9_12 x).AJ :=
 (TT.sI TT.sR (TT.sN (TT.sC fun _ => (TT.sI TT.sR (TT.sN (TT.sC fun _ => TT.sR))))))
def D_f9_12 : AU X_f9_12 R_f9 := .of tt_f9_12
theorem ok_f9_12 : AY J_f9 S_f9_12 D_f9_12 :=
 lk mxk lbn sd_f9_12
def tt_f9_11 (D_f9_8 : AU X_f9_8 R_f9) (x : X_f9_11) : TT Tryz.prog R_f9 :=
 (.AM S_f9_8 D_f9_8 (X_f9_8.mk x.B2 (IntKind.i64.wrap (x.Ko + 1)) x.BM x.CP x.BD))
theorem sd_f9_11 (D_f9_8 : AU X_f9_8 R_f9) (x : X_f9_11) : (tt_f9_11 D_f9_8 x).AJ :=
 TT.sJ
def D_f9_11 (D_f9_8 : AU X_f9_8 R_f9) : AU X_f9_11 R_f9 := .of (tt_f9_11 D_f9_8)
theorem ok_f9_11 (D_f9_8 : AU X_f9_8 R_f9) (h_8 : AY J_f9 S_f9_8 D_f9_8) : AY J_f9 S_f9_11 (D_f9_11 D_f9_8) :=
 lk mxk (lbc h_8 rfl (lbc ok_f9_12 rfl lbn)) (sd_f9_11 D_f9_8)
def tt_f9_10 (D_f9_8 : AU X_f9_8 R_f9) (x : X_f9_10) : TT Tryz.prog R_f9 :=
 (.need (A3 x.BM.At x.B2.n) <|
 (.call con_f34 ((x.B2.get (Int.toNat x.BM.At)), x.BM) fun (y2 : R_f34) =>
 (.AM S_f9_11 (D_f9_11 D_f9_8) (X_f9_11.mk x.B2 x.Ko y2 x.CP x.BD))))
theorem sd_f9_10 (D_f9_8 : AU X_f9_8 R_f9) (x : X_f9_10) : (tt_f9_10 D_f9_8 x).AJ :=
 (TT.sN (TT.sC fun _ => TT.sJ))
def D_f9_10 (D_f9_8 : AU X_f9_8 R_f9) : AU X_f9_10 R_f9 := .of (tt_f9_10 D_f9_8)
theorem ok_f9_10 (D_f9_8 : AU X_f9_8 R_f9) (h_8 : AY J_f9 S_f9_8 D_f9_8) : AY J_f9 S_f9_10 (D_f9_10 D_f9_8) :=
 lk mxk (lbc h_8 rfl (lbc ok_f9_12 rfl (lbc (ok_f9_11 D_f9_8 h_8) rfl lbn))) (sd_f9_10 D_f9_8)
def tt_f9_8 (D_f9_8 : AU X_f9_8 R_f9) (x : X_f9_8) : TT Tryz.prog R_f9 :=
 (.ite (Bg x.Ko 256)
 (.ite (AW x.BM.At ((x.B2.n : Nat) : Int))
 (.AM S_f9_12 D_f9_12 (X_f9_12.mk x.B2 x.BM x.CP x.BD))
 (.need (A3 x.BM.At x.B2.n) <|
 (.call con_f40 (x.B2.get (Int.toNat x.BM.At)).Op fun (y2 : R_f40) =>
 (.ite y2
 (.AM S_f9_12 D_f9_12 (X_f9_12.mk x.B2 x.BM x.CP x.BD))
 (.AM S_f9_10 (D_f9_10 D_f9_8) (X_f9_10.mk x.B2 x.Ko x.BM x.CP x.BD))))))
 (.AM S_f9_12 D_f9_12 (X_f9_12.mk x.B2 x.BM x.CP x.BD)))
theorem sd_f9_8 (D_f9_8 : AU X_f9_8 R_f9) (x : X_f9_8) : (tt_f9_8 D_f9_8 x).AJ :=
 (TT.sI (TT.sI TT.sJ (TT.sN (TT.sC fun _ => (TT.sI TT.sJ TT.sJ)))) TT.sJ)
def D_f9_8 : AU X_f9_8 R_f9 := AU.loop tt_f9_8
theorem ok_f9_8 : AY J_f9 S_f9_8 D_f9_8 :=
 A5 fun D_f9_8 h_8 => lk mxk (lbc h_8 rfl (lbc ok_f9_12 rfl (lbc (ok_f9_11 D_f9_8 h_8) rfl (lbc (ok_f9_10 D_f9_8 h_8) rfl lbn)))) (sd_f9_8 D_f9_8)
def tt_f9 (x : X_f9) : TT Tryz.prog R_f9 :=
 (.ite (!(AW x.snd.Status 0))
 (.ret (x.snd, (TAk.mk 0 0 0 0 0 0)))
 (.ite (AW x.snd.Phase 1)
 (.need (A3 x.snd.At x.fst.n) <|
 (.need (A3 (x.fst.get (Int.toNat x.snd.At)).A 8) <|
 (.ret (x.snd, (TAk.mk 10 x.snd.Ring 0 0 x.snd.AG (x.snd.Ae (Int.toNat (x.fst.get (Int.toNat x.snd.At)).A)))))))
 (.ite (AW x.snd.Phase 2)
 (.need (A3 x.snd.At x.fst.n) <|
 (.ret (x.snd, (TAk.mk 11 x.snd.Ring 0 (IntKind.i64.wrap (x.fst.get (Int.toNat x.snd.At)).K) x.snd.AG 0))))
 (.AM S_f9_8 D_f9_8 (X_f9_8.mk x.fst 0 x.snd (TTh.mk 0 0 0 0 0 (fun _i1 => (0 : Int)) (Sl.mk true 0 (fun _i1 => (0 : Int)))) (TAk.mk 0 0 0 0 0 0))))))
theorem sd_f9 (x : X_f9) : (tt_f9 x).AJ :=
 (TT.sI TT.sR (TT.sI (TT.sN (TT.sN TT.sR)) (TT.sI (TT.sN TT.sR) TT.sJ)))
def D_f9 : AU X_f9 R_f9 := .of tt_f9
def con_f9 : BC Tryz.prog :=
 Br 172 J_f9 S_f9 D_f9 2 0 [hsl_TIn, sh_TTh_6] (lk mxk (lbc ok_f9_12 rfl (lbc ok_f9_8 rfl lbn)) sd_f9)
abbrev X_f1v : Type := (Sl Int)
abbrev R_f1v : Type := (Sl Int)
def J_f1v : BH Tryz.prog :=
 BN Tryz.prog Tryz.f47 8 [(6, 1)] [] [] [.Eg 2] [GP] [] [] R_f1v [] fun y => [GR y]
def S_f1v : AO :=
 Ah Tryz.f47 1 0 X_f1v (fun x => [BB x]) fun l => (BV (at_ l 0))
def tt_f1v (x : X_f1v) : TT Tryz.prog R_f1v :=
 (.ite x.nil
 (.ret (Sl.mk true 0 (fun _i1 => (0 : Int))))
 (.need (true && (room ((0 : Nat) + x.n) 8)) <|
 (.ret (Sl.mk (cond (Nat.beq x.n 0) false false) ((0 : Nat) + x.n) (fun i1 => (cond (Nat.blt i1 0) (0 : Int) (x.get (i1 - 0))))))))
theorem sd_f1v (x : X_f1v) : (tt_f1v x).AJ :=
 (TT.sI TT.sR (TT.sN TT.sR))
def D_f1v : AU X_f1v R_f1v := .of tt_f1v
def con_f1v : BC Tryz.prog :=
 Br 47 J_f1v S_f1v D_f1v 1 0 [BJ] (lk mxk lbn sd_f1v)
abbrev X_f36 : Type := (Sl TIn) × TTh
abbrev R_f36 : Type := TTh × TAk × Int
def J_f36 : BH Tryz.prog :=
 BN Tryz.prog Tryz.f133 26 [(18, 1), (19, 1), (20, 1), (24, 1)] [] [] [] [sh_TTh_6, .any, .any] [] [con_f1v, con_fw, con_f9] R_f36 [] fun y => [V.CN (V.cons (e_TTh_6 y.1) (V.cons (e_TAk y.2.1) (V.cons ((V.int .i64) y.2.2) (V.unit))))]
def S_f36 : AO :=
 Ah Tryz.f133 2 0 X_f36 (fun x => [esl_TIn x.1, e_TTh x.2]) fun l => (dsl_TIn (at_ l 0), d_TTh (at_ l 1))
def tt_f36 (x : X_f36) : TT Tryz.prog R_f36 :=
 (.call con_fw x fun (y1 : R_fw) =>
 (.ite (!y1)
 (.ret ((TTh.mk 0 0 0 0 0 (fun _i2 => (0 : Int)) (Sl.mk true 0 (fun _i2 => (0 : Int)))), ((TAk.mk 0 0 0 0 0 0), 1)))
 (.call con_f1v x.snd.Seen fun (y2 : R_f1v) =>
 (.call con_f9 (x.fst, (TTh.mk x.snd.At x.snd.Phase x.snd.Ring x.snd.Status x.snd.AG x.snd.Ae y2)) fun (y3 : R_f9) =>
 (.ret (y3.fst, (y3.snd, 0)))))))
theorem sd_f36 (x : X_f36) : (tt_f36 x).AJ :=
 (TT.sC fun _ => (TT.sI TT.sR (TT.sC fun _ => (TT.sC fun _ => TT.sR))))
def D_f36 : AU X_f36 R_f36 := .of tt_f36
def con_f36 : BC Tryz.prog :=
 Br 133 J_f36 S_f36 D_f36 2 0 [hsl_TIn, sh_TTh] (lk mxk lbn sd_f36)
abbrev X_f1c : Type := Int × TFa
abbrev R_f1c : Type := TAk
abbrev RR_f1c : Type := TAk × TFa
abbrev p_f1c (y : RR_f1c) : TFa := y.2
abbrev w_f1c (x : X_f1c) : TFa := x.2
def J_f1c : BH Tryz.prog :=
 BN Tryz.prog Tryz.f78 29 [(8, 1)] [(2, [.back (.loc 20 0)])] [(1, [.IC (.par 0) [.B8 1 2] 20])] [.back (.loc 20 0)] [.any] [sh_TFa] [con_f36] RR_f1c [(0, [⟨.loc 20 0, .par 0, [.B8 1 2], none, none⟩])] fun y => [e_TAk y.1, e_TFa y.2]
def S_f1c : AO :=
 Ah Tryz.f78 2 1 X_f1c (fun x => [(V.ptr (.par 0) []), (V.int .i64) x.1, e_TFa x.2]) fun l => (dI (at_ l 1), d_TFa (at_ l 2))
def tt_f1c (x : X_f1c) : TT Tryz.prog RR_f1c :=
 (.need (A3 x.fst x.snd.p.AB.n) <|
 (.need (A3 x.fst x.snd.threads.n) <|
 (.need ((Nat.beq x.snd.threads.n x.snd.threads.n) && true) <|
 (.call con_f36 ((x.snd.p.AB.get (Int.toNat x.fst)), (x.snd.threads.get ((0 : Nat) + (Int.toNat x.fst)))) fun (y1 : R_f36) =>
 (.need ((true && true) && (Nat.beq x.snd.threads.n x.snd.threads.n)) <|
 (.ret (y1.snd.fst, x.snd)))))))
theorem sd_f1c (x : X_f1c) : (tt_f1c x).AJ :=
 (TT.sN (TT.sN (TT.sN (TT.sC fun _ => (TT.sN TT.sR)))))
theorem roT_f1c (x : X_f1c) : TT.Ro p_f1c (w_f1c x) (tt_f1c x) :=
 (TT.rN (TT.rN (TT.rN (TT.rC fun _ => (TT.rN (TT.rR rfl))))))
def D_f1c : AU X_f1c R_f1c := .ro (.of tt_f1c) (fun y => (y.1)) (fun y x => (y, x.2)) fun x y h => congrArg (fun o => (y.1, o)) (roT_f1c x y h)
def con_f1c : BC Tryz.prog :=
 DT 78 J_f1c S_f1c (.of tt_f1c) D_f1c (fun y x => (y, x.2)) (fun y => e_TAk y) 2 1 [.any, .any] (lk mxk lbn sd_f1c) (fun x => ⟨(nu_e_TFa : ∀ y, (e_TFa y).Ch) (x.2), trivial⟩)
abbrev X_f1o : Type := Int × TFa
abbrev R_f1o : Type := TAk × Int
abbrev RR_f1o : Type := TAk × Int × TFa
abbrev p_f1o (y : RR_f1o) : TFa := y.2.2
abbrev w_f1o (x : X_f1o) : TFa := x.2
def J_f1o : BH Tryz.prog :=
 BN Tryz.prog Tryz.f42 19 [] [] [] [] [.any, .any] [sh_TFa] [con_f1c, con_f1b] RR_f1o [] fun y => [V.CN (V.cons (e_TAk y.1) (V.cons ((V.int .i64) y.2.1) (V.unit))), e_TFa y.2.2]
def S_f1o : AO :=
 Ah Tryz.f42 2 1 X_f1o (fun x => [(V.ptr (.par 0) []), (V.int .i64) x.1, e_TFa x.2]) fun l => (dI (at_ l 1), d_TFa (at_ l 2))
def tt_f1o (x : X_f1o) : TT Tryz.prog RR_f1o :=
 (.call con_f1b (x.fst, x.snd) fun (y1 : R_f1b) =>
 (.ite (!y1)
 (.ret ((TAk.mk 0 0 0 0 0 0), (5, x.snd)))
 (.call con_f1c (x.fst, x.snd) fun (y2 : R_f1c) =>
 (.ret (y2, (0, x.snd))))))
theorem sd_f1o (x : X_f1o) : (tt_f1o x).AJ :=
 (TT.sC fun _ => (TT.sI TT.sR (TT.sC fun _ => TT.sR)))
theorem roT_f1o (x : X_f1o) : TT.Ro p_f1o (w_f1o x) (tt_f1o x) :=
 (TT.rC fun _ => (TT.rI (TT.rR rfl) (TT.rC fun _ => (TT.rR rfl))))
def D_f1o : AU X_f1o R_f1o := .ro (.of tt_f1o) (fun y => (y.1, y.2.1)) (fun y x => (y.1, y.2, x.2)) fun x y h => congrArg (fun o => (y.1, y.2.1, o)) (roT_f1o x y h)
def con_f1o : BC Tryz.prog :=
 DT 42 J_f1o S_f1o (.of tt_f1o) D_f1o (fun y x => (y.1, y.2, x.2)) (fun y => V.CN (V.cons (e_TAk y.1) (V.cons ((V.int .i64) y.2) (V.unit)))) 2 1 [.any, .any] (lk mxk lbn sd_f1o) (fun x => ⟨(nu_e_TFa : ∀ y, (e_TFa y).Ch) (x.2), trivial⟩)
abbrev X_fx : Type := (Ar TSo)
abbrev R_fx : Type := (Sl TSo)
abbrev RR_fx : Type := (Sl TSo) × (Ar TSo)
abbrev p_fx (y : RR_fx) : (Ar TSo) := y.2
abbrev w_fx (x : X_fx) : (Ar TSo) := x
def J_fx : BH Tryz.prog :=
 BN Tryz.prog Tryz.f137 8 [(6, 1)] [] [] [.Eg 2] [hsl_TSo] [.any] [] RR_fx [] fun y => [esl_TSo y.1, (Md 3 e_TSo) y.2]
def S_fx : AO :=
 Ah Tryz.f137 1 1 X_fx (fun x => [(V.own (.par 0) [] 3 x.n 0 x.n), (Md 3 e_TSo) x]) fun l => ((Rb d_TSo) (at_ l 1))
def tt_fx (x : X_fx) : TT Tryz.prog RR_fx :=
 (.need (Nat.blt 0 x.n) <|
 (.need ((true && (Nat.beq x.n x.n)) && (room ((0 : Nat) + x.n) 24)) <|
 (.side (∀ i1 : Nat, ((i1 < x.n) → ((true && (true && (true && true))) = true))) <|
 (.ret ((Sl.mk (cond (Nat.beq x.n 0) false false) ((0 : Nat) + x.n) (fun i1 => (TSo.mk (cond (Nat.blt i1 0) (0 : Int) (x.get ((0 : Nat) + (i1 - 0))).AP) (cond (Nat.blt i1 0) (0 : Int) (x.get ((0 : Nat) + (i1 - 0))).Value) (cond (Nat.blt i1 0) (0 : Int) (x.get ((0 : Nat) + (i1 - 0))).Left)))), x)))))
theorem sd_fx (x : X_fx) : (tt_fx x).AJ :=
 (TT.sN (TT.sN (TT.sS (fun _ _ => rfl) TT.sR)))
theorem roT_fx (x : X_fx) : TT.Ro p_fx (w_fx x) (tt_fx x) :=
 (TT.rN (TT.rN (TT.rS (TT.rR rfl))))
def D_fx : AU X_fx R_fx := .ro (.of tt_fx) (fun y => (y.1)) (fun y x => (y, x)) fun x y h => congrArg (fun o => (y.1, o)) (roT_fx x y h)
def con_fx : BC Tryz.prog :=
 DT 137 J_fx S_fx (.of tt_fx) D_fx (fun y x => (y, x)) (fun y => esl_TSo y) 1 1 [.any] (lk mxk lbn sd_fx) (fun x => ⟨(fun _ _ => (nu_e_TSo) _ : ∀ y, ((Md 3 e_TSo) y).Ch) (x), trivial⟩)
abbrev X_f1z : Type := TSs
abbrev R_f1z : Type := (Sl TSo)
abbrev RR_f1z : Type := (Sl TSo) × TSs
abbrev p_f1z (y : RR_f1z) : TSs := y.2
abbrev w_f1z (x : X_f1z) : TSs := x
def J_f1z : BH Tryz.prog :=
 BN Tryz.prog Tryz.f84 10 [] [] [] [.back (.loc 8 0), .Eg 2] [hsl_TSo] [sh_TSs] [con_fx] RR_f1z [] fun y => [esl_TSo y.1, e_TSs y.2]
def S_f1z : AO :=
 Ah Tryz.f84 1 1 X_f1z (fun x => [(V.ptr (.par 0) []), e_TSs x]) fun l => (d_TSs (at_ l 1))
def tt_f1z (x : X_f1z) : TT Tryz.prog RR_f1z :=
 (.call con_fx (Ar.mk x.l.n x.l.get) fun (y1 : R_fx) =>
 (.need ((true && true) && (Nat.beq x.l.n x.l.n)) <|
 (.ret (y1, x))))
theorem sd_f1z (x : X_f1z) : (tt_f1z x).AJ :=
 (TT.sC fun _ => (TT.sN TT.sR))
theorem roT_f1z (x : X_f1z) : TT.Ro p_f1z (w_f1z x) (tt_f1z x) :=
 (TT.rC fun _ => (TT.rN (TT.rR rfl)))
def D_f1z : AU X_f1z R_f1z := .ro (.of tt_f1z) (fun y => (y.1)) (fun y x => (y, x)) fun x y h => congrArg (fun o => (y.1, o)) (roT_f1z x y h)
def con_f1z : BC Tryz.prog :=
 DT 84 J_f1z S_f1z (.of tt_f1z) D_f1z (fun y x => (y, x)) (fun y => esl_TSo y) 1 1 [.any] (lk mxk lbn sd_f1z) (fun x => ⟨(nu_e_TSs : ∀ y, (e_TSs y).Ch) (x), trivial⟩)
abbrev X_f13 : Type := (Ar Int)
abbrev R_f13 : Type := (Sl Int)
abbrev RR_f13 : Type := (Sl Int) × (Ar Int)
abbrev p_f13 (y : RR_f13) : (Ar Int) := y.2
abbrev w_f13 (x : X_f13) : (Ar Int) := x
def J_f13 : BH Tryz.prog :=
 BN Tryz.prog Tryz.f47 8 [(6, 1)] [] [] [.Eg 2] [BJ] [.any] [] RR_f13 [] fun y => [BB y.1, (Md 1 (V.int .u64)) y.2]
def S_f13 : AO :=
 Ah Tryz.f47 1 1 X_f13 (fun x => [(V.own (.par 0) [] 1 x.n 0 x.n), (Md 1 (V.int .u64)) x]) fun l => ((Rb dI) (at_ l 1))
def tt_f13 (x : X_f13) : TT Tryz.prog RR_f13 :=
 (.need (Nat.blt 0 x.n) <|
 (.need ((true && (Nat.beq x.n x.n)) && (room ((0 : Nat) + x.n) 8)) <|
 (.side (∀ i1 : Nat, ((i1 < x.n) → (true = true))) <|
 (.ret ((Sl.mk (cond (Nat.beq x.n 0) false false) ((0 : Nat) + x.n) (fun i1 => (cond (Nat.blt i1 0) (0 : Int) (x.get ((0 : Nat) + (i1 - 0)))))), x)))))
theorem sd_f13 (x : X_f13) : (tt_f13 x).AJ :=
 (TT.sN (TT.sN (TT.sS (fun _ _ => rfl) TT.sR)))
theorem roT_f13 (x : X_f13) : TT.Ro p_f13 (w_f13 x) (tt_f13 x) :=
 (TT.rN (TT.rN (TT.rS (TT.rR rfl))))
def D_f13 : AU X_f13 R_f13 := .ro (.of tt_f13) (fun y => (y.1)) (fun y x => (y, x)) fun x y h => congrArg (fun o => (y.1, o)) (roT_f13 x y h)
def con_f13 : BC Tryz.prog :=
 DT 47 J_f13 S_f13 (.of tt_f13) D_f13 (fun y x => (y, x)) (fun y => BB y) 1 1 [.any] (lk mxk lbn sd_f13) (fun x => ⟨(fun _ _ => trivial : ∀ y, ((Md 1 (V.int .u64)) y).Ch) (x), trivial⟩)
structure TRs where
 Ax : Int
 AV : (Sl Int)
 Ao : Bool
 Ai : (Sl TSo)
def d_TRs (v : V) : TRs :=
 ⟨dI (fd v 0), BV (fd v 1), dB (fd v 2), dsl_TSo (fd v 3)⟩
def e_TRs (x : TRs) : V :=
 V.cons ((V.int .u64) x.Ax) (V.cons (BB x.AV) (V.cons (V.bool x.Ao) (V.cons (esl_TSo x.Ai) (V.unit))))
theorem nu_e_TRs (x : TRs) : (e_TRs x).Ch := ⟨trivial, trivial, trivial, trivial, trivial⟩
def sh_TRs : Sh := (.cons .any (.cons BJ (.cons .any (.cons hsl_TSo .any))))
abbrev X_f1k : Type := TRr
abbrev R_f1k : Type := TRs
abbrev RR_f1k : Type := TRs × TRr
abbrev p_f1k (y : RR_f1k) : TRr := y.2
abbrev w_f1k (x : X_f1k) : TRr := x
def J_f1k : BH Tryz.prog :=
 BN Tryz.prog Tryz.f48 27 [] [] [(3, [.IC (.par 0) [.B8 0 0, .B8 1 1] 15, .IC (.par 0) [.B8 1 2] 24])] [.back (.loc 24 0), .back (.loc 15 0)] [sh_TRs] [sh_TRr] [con_f13, con_f1z] RR_f1k [(0, [⟨.loc 15 0, .par 0, [.B8 0 0, .B8 1 1], none, none⟩, ⟨.loc 24 0, .par 0, [.B8 1 2], none, none⟩])] fun y => [e_TRs y.1, e_TRr y.2]
def S_f1k : AO :=
 Ah Tryz.f48 1 1 X_f1k (fun x => [(V.ptr (.par 0) []), e_TRr x]) fun l => (d_TRr (at_ l 1))
def tt_f1k (x : X_f1k) : TT Tryz.prog RR_f1k :=
 (.need ((true && true) && (!x.s.nil)) <|
 (.call con_f13 (Ar.mk x.AA.AD.n x.AA.AD.get) fun (y1 : R_f13) =>
 (.call con_f1z x.s.x fun (y2 : R_f1z) =>
 (.need ((true && true) && (!x.s.nil)) <|
 (.side ((fun v : V => v = v) (V.cons (V.A7 175 3 x.s.x.l.nil x.s.x.l.n (fun i3 => (V.cons (V.int IntKind.u64 (x.s.x.l.get i3).AP) (V.cons (V.int IntKind.u64 (x.s.x.l.get i3).Value) (V.cons (V.int IntKind.i64 (x.s.x.l.get i3).Left) V.unit))))) (V.cons (V.int IntKind.i64 x.s.x.AX) V.unit))) <|
 (.need ((true && true) && (Nat.beq x.AA.AD.n x.AA.AD.n)) <|
 (.ret ((TRs.mk x.AA.tail y1 x.closed y2), x))))))))
theorem sd_f1k (x : X_f1k) : (tt_f1k x).AJ :=
 (TT.sN (TT.sC fun _ => (TT.sC fun _ => (TT.sN (TT.sS rfl (TT.sN TT.sR))))))
theorem roT_f1k (x : X_f1k) : TT.Ro p_f1k (w_f1k x) (tt_f1k x) :=
 (TT.rN (TT.rC fun _ => (TT.rC fun _ => (TT.rN (TT.rS (TT.rN (TT.rR rfl)))))))
def D_f1k : AU X_f1k R_f1k := .ro (.of tt_f1k) (fun y => (y.1)) (fun y x => (y, x)) fun x y h => congrArg (fun o => (y.1, o)) (roT_f1k x y h)
def con_f1k : BC Tryz.prog :=
 DT 48 J_f1k S_f1k (.of tt_f1k) D_f1k (fun y x => (y, x)) (fun y => e_TRs y) 1 1 [.any] (lk mxk lbn sd_f1k) (fun x => ⟨(nu_e_TRr : ∀ y, (e_TRr y).Ch) (x), trivial⟩)
abbrev X_f1y : Type := Int × Int × Int × TSo
abbrev R_f1y : Type := Bool
def J_f1y : BH Tryz.prog :=
 BN Tryz.prog Tryz.f149 45 [(7, 3)] [] [] [] [.any] [] [] R_f1y [] fun y => [V.bool y]
def S_f1y : AO :=
 Ah Tryz.f149 4 0 X_f1y (fun x => [(V.int .i64) x.1, (V.int .i64) x.2.1, (V.int .i64) x.2.2.1, e_TSo x.2.2.2]) fun l => (dI (at_ l 0), dI (at_ l 1), dI (at_ l 2), d_TSo (at_ l 3))
structure X_f1y_3 where
 JF : Int
 U9 : TSo
def S_f1y_3 : AO :=
 Ad Tryz.f149 3 (an [2, 7]) [] [] X_f1y_3 (fun x => [(V.int .i64) x.JF, (CU e_TSo) x.U9]) fun l => ⟨dI (at_ l 0), (CV d_TSo) (at_ l 1)⟩
def tt_f1y_3 (x : X_f1y_3) : TT Tryz.prog R_f1y :=
 (.ite (AW (Int.tmod x.U9.AP 2) 0)
 (.ite (AW x.U9.Value 0)
 (.ret (AW x.U9.Left 0))
 (.ret false))
 (.ite (Bm 1 x.U9.Left)
 (.need (Bm 0 x.JF) <|
 (.ret (Bg x.U9.Left (shl IntKind.i64 1 x.JF))))
 (.ret false)))
theorem sd_f1y_3 (x : X_f1y_3) : (tt_f1y_3 x).AJ :=
 (TT.sI (TT.sI TT.sR TT.sR) (TT.sI (TT.sN TT.sR) TT.sR))
def D_f1y_3 : AU X_f1y_3 R_f1y := .of tt_f1y_3
theorem ok_f1y_3 : AY J_f1y S_f1y_3 D_f1y_3 :=
 lk mxk lbn sd_f1y_3
def tt_f1y (x : X_f1y) : TT Tryz.prog R_f1y :=
 (.ite (Bm 9223372036854775808 x.snd.snd.snd.AP)
 (.ret false)
 (.need (!(AW (IntKind.u64.wrap x.snd.fst) 0)) <|
 (.ite (!(AW (Int.tmod (IntKind.u64.wrap (Int.tdiv x.snd.snd.snd.AP 2)) (IntKind.u64.wrap x.snd.fst)) (IntKind.u64.wrap x.fst)))
 (.ret false)
 (.AM S_f1y_3 D_f1y_3 (X_f1y_3.mk x.snd.snd.fst x.snd.snd.snd)))))
theorem sd_f1y (x : X_f1y) : (tt_f1y x).AJ :=
 (TT.sI TT.sR (TT.sN (TT.sI TT.sR TT.sJ)))
def D_f1y : AU X_f1y R_f1y := .of tt_f1y
def con_f1y : BC Tryz.prog :=
 Br 149 J_f1y S_f1y D_f1y 4 0 [.any, .any, .any, .any] (lk mxk (lbc ok_f1y_3 rfl lbn) sd_f1y)
abbrev X_f1m : Type := (Sl TSo)
abbrev R_f1m : Type := (Sl TSo)
def J_f1m : BH Tryz.prog :=
 BN Tryz.prog Tryz.f137 8 [(5, 1), (6, 1)] [] [] [.Eg 2] [hosl_TSo] [] [] R_f1m [] fun y => [eosl_TSo y]
def S_f1m : AO :=
 Ah Tryz.f137 1 0 X_f1m (fun x => [esl_TSo x]) fun l => (dsl_TSo (at_ l 0))
def tt_f1m (x : X_f1m) : TT Tryz.prog R_f1m :=
 (.ite x.nil
 (.ret (Sl.mk true 0 (fun _i1 => (TSo.mk 0 0 0))))
 (.need (true && (room ((0 : Nat) + x.n) 24)) <|
 (.ret (Sl.mk (cond (Nat.beq x.n 0) false false) ((0 : Nat) + x.n) (fun i1 => (TSo.mk (cond (Nat.blt i1 0) (0 : Int) (x.get (i1 - 0)).AP) (cond (Nat.blt i1 0) (0 : Int) (x.get (i1 - 0)).Value) (cond (Nat.blt i1 0) (0 : Int) (x.get (i1 - 0)).Left)))))))
theorem sd_f1m (x : X_f1m) : (tt_f1m x).AJ :=
 (TT.sI TT.sR (TT.sN TT.sR))
def D_f1m : AU X_f1m R_f1m := .of tt_f1m
def con_f1m : BC Tryz.prog :=
 Br 137 J_f1m S_f1m D_f1m 1 0 [hsl_TSo] (lk mxk lbn sd_f1m)
abbrev X_fy : Type := Int × Int × (Sl TSo)
abbrev R_fy : Type := (Bx TSs) × Int
def J_fy : BH Tryz.prog :=
 BN Tryz.prog Tryz.f98 37 [(32, 1)] [] [] [.Eg 6] [hbox_TSs, .any] [] [con_f1m, con_f3s, con_f1y] R_fy [] fun y => [V.CN (V.cons (ebox_TSs y.1) (V.cons ((V.int .i64) y.2) (V.unit)))]
def S_fy : AO :=
 Ah Tryz.f98 3 0 X_fy (fun x => [(V.int .i64) x.1, (V.int .i64) x.2.1, esl_TSo x.2.2]) fun l => (dI (at_ l 0), dI (at_ l 1), dsl_TSo (at_ l 2))
structure X_fy_6 where
 E0 : Int
 Ej : Int
 VD : (Sl TSo)
 Tj : (Sl TSo)
 Un : Int
 Q1 : Int
def S_fy_6 : AO :=
 Ad Tryz.f98 6 [(0, .any), (1, .any), (2, hsl_TSo), (18, hsl_TSo), (19, .any), (20, .any)] [] [] X_fy_6 (fun x => [(V.int .i64) x.E0, (V.int .i64) x.Ej, esl_TSo x.VD, esl_TSo x.Tj, (V.int .i64) x.Un, (V.int .i64) x.Q1]) fun l => ⟨dI (at_ l 0), dI (at_ l 1), dsl_TSo (at_ l 2), dsl_TSo (at_ l 3), dI (at_ l 4), dI (at_ l 5)⟩
structure X_fy_11 where
 Ej : Int
 VD : (Sl TSo)
def S_fy_11 : AO :=
 Ad Tryz.f98 11 [(1, .any), (2, hsl_TSo)] [] [] X_fy_11 (fun x => [(V.int .i64) x.Ej, esl_TSo x.VD]) fun l => ⟨dI (at_ l 0), dsl_TSo (at_ l 1)⟩
def tt_fy_11 (x : X_fy_11) : TT Tryz.prog R_fy :=
 (.call con_f1m x.VD fun (y1 : R_f1m) =>
 (.ret ((Bx.mk false (TSs.mk y1 x.Ej)), 0)))
theorem sd_fy_11 (x : X_fy_11) : (tt_fy_11 x).AJ :=
 (TT.sC fun _ => TT.sR)
def D_fy_11 : AU X_fy_11 R_fy := .of tt_fy_11
theorem ok_fy_11 : AY J_fy S_fy_11 D_fy_11 :=
 lk mxk lbn sd_fy_11
def tt_fy_6 (D_fy_6 : AU X_fy_6 R_fy) (x : X_fy_6) : TT Tryz.prog R_fy :=
 (.ite (Bg x.Q1 x.Un)
 (.need (A3 x.Q1 x.Tj.n) <|
 (.call con_f1y (x.Q1, (x.E0, (x.Ej, (x.Tj.get (Int.toNat x.Q1))))) fun (y2 : R_f1y) =>
 (.ite (!y2)
 (.ret ((Bx.mk true (TSs.mk (Sl.mk true 0 (fun _i3 => (TSo.mk 0 0 0))) 0)), 3))
 (.AM S_fy_6 D_fy_6 (X_fy_6.mk x.E0 x.Ej x.VD x.Tj x.Un (IntKind.i64.wrap (x.Q1 + 1)))))))
 (.AM S_fy_11 D_fy_11 (X_fy_11.mk x.Ej x.VD)))
theorem sd_fy_6 (D_fy_6 : AU X_fy_6 R_fy) (x : X_fy_6) : (tt_fy_6 D_fy_6 x).AJ :=
 (TT.sI (TT.sN (TT.sC fun _ => (TT.sI TT.sR TT.sJ))) TT.sJ)
def D_fy_6 : AU X_fy_6 R_fy := AU.loop tt_fy_6
theorem ok_fy_6 : AY J_fy S_fy_6 D_fy_6 :=
 A5 fun D_fy_6 h_6 => lk mxk (lbc h_6 rfl (lbc ok_fy_11 rfl lbn)) (sd_fy_6 D_fy_6)
def tt_fy (x : X_fy) : TT Tryz.prog R_fy :=
 (.call con_f3s (x.fst, x.snd.fst) fun (y1 : R_f3s) =>
 (.ite (!y1)
 (.ret ((Bx.mk true (TSs.mk (Sl.mk true 0 (fun _i2 => (TSo.mk 0 0 0))) 0)), 1))
 (.ite (!(AW ((x.snd.snd.n : Nat) : Int) x.fst))
 (.ret ((Bx.mk true (TSs.mk (Sl.mk true 0 (fun _i2 => (TSo.mk 0 0 0))) 0)), 3))
 (.AM S_fy_6 D_fy_6 (X_fy_6.mk x.fst x.snd.fst x.snd.snd x.snd.snd ((x.snd.snd.n : Nat) : Int) 0)))))
theorem sd_fy (x : X_fy) : (tt_fy x).AJ :=
 (TT.sC fun _ => (TT.sI TT.sR (TT.sI TT.sR TT.sJ)))
def D_fy : AU X_fy R_fy := .of tt_fy
def con_fy : BC Tryz.prog :=
 Br 98 J_fy S_fy D_fy 3 0 [.any, .any, hsl_TSo] (lk mxk (lbc ok_fy_11 rfl (lbc ok_fy_6 rfl lbn)) sd_fy)
abbrev X_f0 : Type := TSo × TRr
abbrev R_f0 : Type := Bool
abbrev RR_f0 : Type := Bool × TRr
abbrev p_f0 (y : RR_f0) : TRr := y.2
abbrev w_f0 (x : X_f0) : TRr := x.2
def J_f0 : BH Tryz.prog :=
 BN Tryz.prog Tryz.f99 74 [(3, 3)] [(9, [.back (.loc 30 0)]), (11, [.back (.loc 30 0)]), (13, [.back (.loc 30 0)])] [] [.back (.loc 30 0)] [.any] [sh_TRr] [] RR_f0 [(6, [⟨.loc 30 0, .par 0, [.B8 0 0, .B8 1 1], none, none⟩]), (12, [⟨.loc 30 0, .par 0, [.B8 0 0, .B8 1 1], none, none⟩])] fun y => [V.bool y.1, e_TRr y.2]
def S_f0 : AO :=
 Ah Tryz.f99 2 1 X_f0 (fun x => [(V.ptr (.par 0) []), e_TSo x.1, e_TRr x.2]) fun l => (d_TSo (at_ l 1), d_TRr (at_ l 2))
structure X_f0_5 where
 Nv : TSo
 Ke : Int
 C3 : Bool
 Ag : TRr
def S_f0_5 : AO :=
 Ad Tryz.f99 5 (an [0, 3, 5, 6]) [sh_TRr] [] X_f0_5 (fun x => [(V.ptr (.par 0) []), (CU e_TSo) x.Nv, (V.int .u64) x.Ke, V.bool x.C3, e_TRr x.Ag]) fun l => ⟨(CV d_TSo) (at_ l 1), dI (at_ l 2), dB (at_ l 3), d_TRr (at_ l 4)⟩
structure X_f0_6 where
 Nv : TSo
 Ke : Int
 C3 : Bool
 Fz : Int
 Fy : Int
 Ag : TRr
def S_f0_6 : AO :=
 Ad Tryz.f99 6 (an [0, 3, 5, 6, 30, 31, 32]) [sh_TRr] [(.loc 30 0, .any)] X_f0_6 (fun x => [(V.ptr (.par 0) []), (CU e_TSo) x.Nv, (V.int .u64) x.Ke, V.bool x.C3, (V.own (.loc 30 0) [] 1 x.Ag.AA.AD.n 0 x.Ag.AA.AD.n), (V.int .i64) x.Fz, (V.int .i64) x.Fy, V.cons (V.cons ((V.int .u64) x.Ag.AA.tail) (V.cons (V.B0 (.loc 30 0) 36 1 x.Ag.AA.AD.nil x.Ag.AA.AD.n) (V.unit))) (V.cons (ebox_TSs x.Ag.s) (V.cons ((V.int .u64) x.Ag.most) (V.cons (V.bool x.Ag.closed) (V.unit)))), (V.arr 1 x.Ag.AA.AD.n fun i => (V.int .u64) (x.Ag.AA.AD.get i))]) fun l => ⟨(CV d_TSo) (at_ l 1), dI (at_ l 2), dB (at_ l 3), dI (at_ l 5), dI (at_ l 6), { d_TRr (at_ l 7) with AA.AD := ⟨(Rq (fd (fd (at_ l 7) 0) 1)).nil, (Rq (fd (fd (at_ l 7) 0) 1)).n, (Rb dI (at_ l 8)).get⟩ }⟩
structure X_f0_12 where
 Nv : TSo
 Ke : Int
 C3 : Bool
 Fz : Int
 Fy : Int
 Ag : TRr
def S_f0_12 : AO :=
 Ad Tryz.f99 12 (an [0, 3, 5, 6, 30, 31, 32]) [sh_TRr] [(.loc 30 0, .any)] X_f0_12 (fun x => [(V.ptr (.par 0) []), (CU e_TSo) x.Nv, (V.int .u64) x.Ke, V.bool x.C3, (V.own (.loc 30 0) [] 1 x.Ag.AA.AD.n 0 x.Ag.AA.AD.n), (V.int .i64) x.Fz, (V.int .i64) x.Fy, V.cons (V.cons ((V.int .u64) x.Ag.AA.tail) (V.cons (V.B0 (.loc 30 0) 36 1 x.Ag.AA.AD.nil x.Ag.AA.AD.n) (V.unit))) (V.cons (ebox_TSs x.Ag.s) (V.cons ((V.int .u64) x.Ag.most) (V.cons (V.bool x.Ag.closed) (V.unit)))), (V.arr 1 x.Ag.AA.AD.n fun i => (V.int .u64) (x.Ag.AA.AD.get i))]) fun l => ⟨(CV d_TSo) (at_ l 1), dI (at_ l 2), dB (at_ l 3), dI (at_ l 5), dI (at_ l 6), { d_TRr (at_ l 7) with AA.AD := ⟨(Rq (fd (fd (at_ l 7) 0) 1)).nil, (Rq (fd (fd (at_ l 7) 0) 1)).n, (Rb dI (at_ l 8)).get⟩ }⟩
abbrev w_f0_5 (x : X_f0_5) : TRr := (x.Ag)
abbrev w_f0_6 (x : X_f0_6) : TRr := (x.Ag)
abbrev w_f0_12 (x : X_f0_12) : TRr := (x.Ag)
def tt_f0_12 (D_f0_6 : AU X_f0_6 RR_f0) (x : X_f0_12) : TT Tryz.prog RR_f0 :=
 (.AM S_f0_6 D_f0_6 (X_f0_6.mk x.Nv x.Ke x.C3 x.Fz (IntKind.i64.wrap (x.Fy + 1)) x.Ag))
theorem sd_f0_12 (D_f0_6 : AU X_f0_6 RR_f0) (x : X_f0_12) : (tt_f0_12 D_f0_6 x).AJ :=
 TT.sJ
theorem roT_f0_12 (D_f0_6 : AU X_f0_6 RR_f0) (r6 : ∀ x y, D_f0_6.rel x y → p_f0 y = w_f0_6 x) (x : X_f0_12) : TT.Ro p_f0 (w_f0_12 x) (tt_f0_12 D_f0_6 x) :=
 (TT.rJ (r6 _))
def D_f0_12 (D_f0_6 : AU X_f0_6 RR_f0) : AU X_f0_12 RR_f0 := .of (tt_f0_12 D_f0_6)
theorem ok_f0_12 (D_f0_6 : AU X_f0_6 RR_f0) (h_6 : AY J_f0 S_f0_6 D_f0_6) : AY J_f0 S_f0_12 (D_f0_12 D_f0_6) :=
 lk mxk (lbc h_6 rfl lbn) (sd_f0_12 D_f0_6)
theorem ro_f0_12 (D_f0_6 : AU X_f0_6 RR_f0) (r6 : ∀ x y, D_f0_6.rel x y → p_f0 y = w_f0_6 x) : ∀ x y, (D_f0_12 D_f0_6).rel x y → p_f0 y = w_f0_12 x :=
 roT_f0_12 D_f0_6 r6
def tt_f0_6 (D_f0_6 : AU X_f0_6 RR_f0) (x : X_f0_6) : TT Tryz.prog RR_f0 :=
 (.ite (Bg x.Fy x.Fz)
 (.need (A3 x.Fy x.Ag.AA.AD.n) <|
 (.need ((Nat.beq x.Ag.AA.AD.n x.Ag.AA.AD.n) && true) <|
 (.ite x.C3
 (.need (Bm 0 x.Fy) <|
 (.ite (AW (Vm.bits .and IntKind.i64 (shr IntKind.i64 x.Nv.Left x.Fy) 1) 0)
 (.ite (Bm (x.Ag.AA.AD.get ((0 : Nat) + (Int.toNat x.Fy))) x.Ke)
 (.need ((true && true) && (Nat.beq x.Ag.AA.AD.n x.Ag.AA.AD.n)) <|
 (.ret (false, x.Ag)))
 (.ite (!x.C3)
 (.ite (Bm x.Ag.most x.Ke)
 (.ite (Bm (x.Ag.AA.AD.get ((0 : Nat) + (Int.toNat x.Fy))) (IntKind.u64.wrap (x.Ke - x.Ag.most)))
 (.need ((true && true) && (Nat.beq x.Ag.AA.AD.n x.Ag.AA.AD.n)) <|
 (.ret (false, x.Ag)))
 (.AM S_f0_12 (D_f0_12 D_f0_6) (X_f0_12.mk x.Nv x.Ke x.C3 x.Fz x.Fy x.Ag)))
 (.AM S_f0_12 (D_f0_12 D_f0_6) (X_f0_12.mk x.Nv x.Ke x.C3 x.Fz x.Fy x.Ag)))
 (.AM S_f0_12 (D_f0_12 D_f0_6) (X_f0_12.mk x.Nv x.Ke x.C3 x.Fz x.Fy x.Ag))))
 (.ite (!x.C3)
 (.ite (Bm x.Ag.most x.Ke)
 (.ite (Bm (x.Ag.AA.AD.get ((0 : Nat) + (Int.toNat x.Fy))) (IntKind.u64.wrap (x.Ke - x.Ag.most)))
 (.need ((true && true) && (Nat.beq x.Ag.AA.AD.n x.Ag.AA.AD.n)) <|
 (.ret (false, x.Ag)))
 (.AM S_f0_12 (D_f0_12 D_f0_6) (X_f0_12.mk x.Nv x.Ke x.C3 x.Fz x.Fy x.Ag)))
 (.AM S_f0_12 (D_f0_12 D_f0_6) (X_f0_12.mk x.Nv x.Ke x.C3 x.Fz x.Fy x.Ag)))
 (.AM S_f0_12 (D_f0_12 D_f0_6) (X_f0_12.mk x.Nv x.Ke x.C3 x.Fz x.Fy x.Ag)))))
 (.ite (!x.C3)
 (.ite (Bm x.Ag.most x.Ke)
 (.ite (Bm (x.Ag.AA.AD.get ((0 : Nat) + (Int.toNat x.Fy))) (IntKind.u64.wrap (x.Ke - x.Ag.most)))
 (.need ((true && true) && (Nat.beq x.Ag.AA.AD.n x.Ag.AA.AD.n)) <|
 (.ret (false, x.Ag)))
 (.AM S_f0_12 (D_f0_12 D_f0_6) (X_f0_12.mk x.Nv x.Ke x.C3 x.Fz x.Fy x.Ag)))
 (.AM S_f0_12 (D_f0_12 D_f0_6) (X_f0_12.mk x.Nv x.Ke x.C3 x.Fz x.Fy x.Ag)))
 (.AM S_f0_12 (D_f0_12 D_f0_6) (X_f0_12.mk x.Nv x.Ke x.C3 x.Fz x.Fy x.Ag))))))
 (.need ((true && true) && (Nat.beq x.Ag.AA.AD.n x.Ag.AA.AD.n)) <|
 (.ret (true, x.Ag))))
theorem sd_f0_6 (D_f0_6 : AU X_f0_6 RR_f0) (x : X_f0_6) : (tt_f0_6 D_f0_6 x).AJ :=
 (TT.sI (TT.sN (TT.sN (TT.sI (TT.sN (TT.sI (TT.sI (TT.sN TT.sR) (TT.sI (TT.sI (TT.sI (TT.sN TT.sR) TT.sJ) TT.sJ) TT.sJ)) (TT.sI (TT.sI (TT.sI (TT.sN TT.sR) TT.sJ) TT.sJ) TT.sJ))) (TT.sI (TT.sI (TT.sI (TT.sN TT.sR) TT.sJ) TT.sJ) TT.sJ)))) (TT.sN TT.sR))
theorem roT_f0_6 (D_f0_6 : AU X_f0_6 RR_f0) (r6 : ∀ x y, D_f0_6.rel x y → p_f0 y = w_f0_6 x) (x : X_f0_6) : TT.Ro p_f0 (w_f0_6 x) (tt_f0_6 D_f0_6 x) :=
 (TT.rI (TT.rN (TT.rN (TT.rI (TT.rN (TT.rI (TT.rI (TT.rN (TT.rR rfl)) (TT.rI (TT.rI (TT.rI (TT.rN (TT.rR rfl)) (TT.rJ (ro_f0_12 D_f0_6 r6 _))) (TT.rJ (ro_f0_12 D_f0_6 r6 _))) (TT.rJ (ro_f0_12 D_f0_6 r6 _)))) (TT.rI (TT.rI (TT.rI (TT.rN (TT.rR rfl)) (TT.rJ (ro_f0_12 D_f0_6 r6 _))) (TT.rJ (ro_f0_12 D_f0_6 r6 _))) (TT.rJ (ro_f0_12 D_f0_6 r6 _))))) (TT.rI (TT.rI (TT.rI (TT.rN (TT.rR rfl)) (TT.rJ (ro_f0_12 D_f0_6 r6 _))) (TT.rJ (ro_f0_12 D_f0_6 r6 _))) (TT.rJ (ro_f0_12 D_f0_6 r6 _)))))) (TT.rN (TT.rR rfl)))
def D_f0_6 : AU X_f0_6 RR_f0 := AU.loop tt_f0_6
theorem ok_f0_6 : AY J_f0 S_f0_6 D_f0_6 :=
 A5 fun D_f0_6 h_6 => lk mxk (lbc h_6 rfl (lbc (ok_f0_12 D_f0_6 h_6) rfl lbn)) (sd_f0_6 D_f0_6)
theorem ro_f0_6 : ∀ x y, D_f0_6.rel x y → p_f0 y = w_f0_6 x :=
 KL fun D_f0_6 r6 => roT_f0_6 D_f0_6 r6
def tt_f0_5 (x : X_f0_5) : TT Tryz.prog RR_f0 :=
 (.AM S_f0_6 D_f0_6 (X_f0_6.mk x.Nv x.Ke x.C3 ((x.Ag.AA.AD.n : Nat) : Int) 0 x.Ag))
theorem sd_f0_5 (x : X_f0_5) : (tt_f0_5 x).AJ :=
 TT.sJ
theorem roT_f0_5 (x : X_f0_5) : TT.Ro p_f0 (w_f0_5 x) (tt_f0_5 x) :=
 (TT.rJ (ro_f0_6 _))
def D_f0_5 : AU X_f0_5 RR_f0 := .of tt_f0_5
theorem ok_f0_5 : AY J_f0 S_f0_5 D_f0_5 :=
 lk mxk (lbc ok_f0_6 rfl lbn) sd_f0_5
theorem ro_f0_5 : ∀ x y, D_f0_5.rel x y → p_f0 y = w_f0_5 x :=
 roT_f0_5 
def tt_f0 (x : X_f0) : TT Tryz.prog RR_f0 :=
 (.ite (AW (Int.tmod x.fst.AP 2) 1)
 (.ite (Bm x.snd.AA.tail (IntKind.u64.wrap (Int.tdiv x.fst.AP 2)))
 (.ret (false, x.snd))
 (.AM S_f0_5 D_f0_5 (X_f0_5.mk x.fst (IntKind.u64.wrap (Int.tdiv x.fst.AP 2)) (AW (Int.tmod x.fst.AP 2) 1) x.snd)))
 (.AM S_f0_5 D_f0_5 (X_f0_5.mk x.fst (IntKind.u64.wrap (Int.tdiv x.fst.AP 2)) (AW (Int.tmod x.fst.AP 2) 1) x.snd)))
theorem sd_f0 (x : X_f0) : (tt_f0 x).AJ :=
 (TT.sI (TT.sI TT.sR TT.sJ) TT.sJ)
theorem roT_f0 (x : X_f0) : TT.Ro p_f0 (w_f0 x) (tt_f0 x) :=
 (TT.rI (TT.rI (TT.rR rfl) (TT.rJ (ro_f0_5 _))) (TT.rJ (ro_f0_5 _)))
def D_f0 : AU X_f0 R_f0 := .ro (.of tt_f0) (fun y => (y.1)) (fun y x => (y, x.2)) fun x y h => congrArg (fun o => (y.1, o)) (roT_f0 x y h)
def con_f0 : BC Tryz.prog :=
 DT 99 J_f0 S_f0 (.of tt_f0) D_f0 (fun y x => (y, x.2)) (fun y => V.bool y) 2 1 [.any, .any] (lk mxk (lbc ok_f0_6 rfl (lbc ok_f0_5 rfl lbn)) sd_f0) (fun x => ⟨(nu_e_TRr : ∀ y, (e_TRr y).Ch) (x.2), trivial⟩)
abbrev X_f1w : Type := (Sl Int)
abbrev R_f1w : Type := (Sl Int)
def J_f1w : BH Tryz.prog :=
 BN Tryz.prog Tryz.f47 8 [(5, 1), (6, 1)] [] [] [.Eg 2] [Oi] [] [] R_f1w [] fun y => [LN y]
def S_f1w : AO :=
 Ah Tryz.f47 1 0 X_f1w (fun x => [BB x]) fun l => (BV (at_ l 0))
def tt_f1w (x : X_f1w) : TT Tryz.prog R_f1w :=
 (.ite x.nil
 (.ret (Sl.mk true 0 (fun _i1 => (0 : Int))))
 (.need (true && (room ((0 : Nat) + x.n) 8)) <|
 (.ret (Sl.mk (cond (Nat.beq x.n 0) false false) ((0 : Nat) + x.n) (fun i1 => (cond (Nat.blt i1 0) (0 : Int) (x.get (i1 - 0))))))))
theorem sd_f1w (x : X_f1w) : (tt_f1w x).AJ :=
 (TT.sI TT.sR (TT.sN TT.sR))
def D_f1w : AU X_f1w R_f1w := .of tt_f1w
def con_f1w : BC Tryz.prog :=
 Br 47 J_f1w S_f1w D_f1w 1 0 [BJ] (lk mxk lbn sd_f1w)
abbrev X_fc : Type := TRg × TRs
abbrev R_fc : Type := (Bx TRr) × Int
def J_fc : BH Tryz.prog :=
 BN Tryz.prog Tryz.f57 113 [(2, 3), (3, 3), (13, 1), (21, 1), (57, 1), (112, 1)] [(7, [.open_ 6]), (12, [.close (.loc 72 0)]), (14, [.close (.loc 72 0)]), (15, [.close (.loc 72 0)]), (16, [.close (.loc 72 0)]), (17, [.close (.loc 72 0)]), (18, [.close (.loc 72 0)]), (19, [.close (.loc 72 0)]), (20, [.close (.loc 72 0)])] [] [.close (.loc 72 0), .Eg 4] [hbox_TRr, .any] [] [con_f2p, con_f0, con_f1w, con_fy] R_fc [(9, [⟨.loc 72 0, .loc 6 1, [.B8 0 0, .B8 1 1], none, none⟩]), (13, [⟨.loc 72 0, .loc 6 1, [.B8 0 0, .B8 1 1], none, none⟩])] fun y => [V.CN (V.cons (ebox_TRr y.1) (V.cons ((V.int .i64) y.2) (V.unit)))]
def S_fc : AO :=
 Ah Tryz.f57 2 0 X_fc (fun x => [e_TRg x.1, e_TRs x.2]) fun l => (d_TRg (at_ l 0), d_TRs (at_ l 1))
structure X_fc_7 where
 EK : TRs
 l_8 : (Bx TSs)
 EY : TRr
def S_fc_7 : AO :=
 Ad Tryz.f57 7 [(3, .any), (6, .any), (8, hbox_TSs)] [] [(.loc 6 1, sh_TRr)] X_fc_7 (fun x => [(CU e_TRs) x.EK, (V.ptr (.loc 6 1) []), ebox_TSs x.l_8, e_TRr x.EY]) fun l => ⟨(CV d_TRs) (at_ l 0), dbox_TSs (at_ l 2), d_TRr (at_ l 3)⟩
structure X_fc_9 where
 EK : TRs
 Qz : Int
 NA : Int
 EY : TRr
def S_fc_9 : AO :=
 Ad Tryz.f57 9 (an [3, 6, 72, 73, 74]) [] [(.loc 6 1, sh_TRr), (.loc 72 0, .any)] X_fc_9 (fun x => [(CU e_TRs) x.EK, (V.ptr (.loc 6 1) []), (V.own (.loc 72 0) [] 1 x.EY.AA.AD.n 0 x.EY.AA.AD.n), (V.int .i64) x.Qz, (V.int .i64) x.NA, V.cons (V.cons ((V.int .u64) x.EY.AA.tail) (V.cons (V.B0 (.loc 72 0) 36 1 x.EY.AA.AD.nil x.EY.AA.AD.n) (V.unit))) (V.cons (ebox_TSs x.EY.s) (V.cons ((V.int .u64) x.EY.most) (V.cons (V.bool x.EY.closed) (V.unit)))), (V.arr 1 x.EY.AA.AD.n fun i => (V.int .u64) (x.EY.AA.AD.get i))]) fun l => ⟨(CV d_TRs) (at_ l 0), dI (at_ l 3), dI (at_ l 4), { d_TRr (at_ l 5) with AA.AD := ⟨(Rq (fd (fd (at_ l 5) 0) 1)).nil, (Rq (fd (fd (at_ l 5) 0) 1)).n, (Rb dI (at_ l 6)).get⟩ }⟩
structure X_fc_13 where
 EK : TRs
 Qz : Int
 NA : Int
 EY : TRr
def S_fc_13 : AO :=
 Ad Tryz.f57 13 (an [3, 6, 72, 73, 74]) [] [(.loc 6 1, sh_TRr), (.loc 72 0, .any)] X_fc_13 (fun x => [(CU e_TRs) x.EK, (V.ptr (.loc 6 1) []), (V.own (.loc 72 0) [] 1 x.EY.AA.AD.n 0 x.EY.AA.AD.n), (V.int .i64) x.Qz, (V.int .i64) x.NA, V.cons (V.cons ((V.int .u64) x.EY.AA.tail) (V.cons (V.B0 (.loc 72 0) 36 1 x.EY.AA.AD.nil x.EY.AA.AD.n) (V.unit))) (V.cons (ebox_TSs x.EY.s) (V.cons ((V.int .u64) x.EY.most) (V.cons (V.bool x.EY.closed) (V.unit)))), (V.arr 1 x.EY.AA.AD.n fun i => (V.int .u64) (x.EY.AA.AD.get i))]) fun l => ⟨(CV d_TRs) (at_ l 0), dI (at_ l 3), dI (at_ l 4), { d_TRr (at_ l 5) with AA.AD := ⟨(Rq (fd (fd (at_ l 5) 0) 1)).nil, (Rq (fd (fd (at_ l 5) 0) 1)).n, (Rb dI (at_ l 6)).get⟩ }⟩
structure X_fc_14 where
 EK : TRs
 EY : TRr
def S_fc_14 : AO :=
 Ad Tryz.f57 14 (an [3, 6]) [] [(.loc 6 1, sh_TRr)] X_fc_14 (fun x => [(CU e_TRs) x.EK, (V.ptr (.loc 6 1) []), e_TRr x.EY]) fun l => ⟨(CV d_TRs) (at_ l 0), d_TRr (at_ l 2)⟩
structure X_fc_15 where
 QF : (Sl TSo)
 SH : Int
 OL : Int
 EY : TRr
def S_fc_15 : AO :=
 Ad Tryz.f57 15 [(6, .any), (101, hsl_TSo), (102, .any), (103, .any)] [] [(.loc 6 1, sh_TRr)] X_fc_15 (fun x => [(V.ptr (.loc 6 1) []), esl_TSo x.QF, (V.int .i64) x.SH, (V.int .i64) x.OL, e_TRr x.EY]) fun l => ⟨dsl_TSo (at_ l 1), dI (at_ l 2), dI (at_ l 3), d_TRr (at_ l 4)⟩
def tt_fc_15 (D_fc_15 : AU X_fc_15 R_fc) (x : X_fc_15) : TT Tryz.prog R_fc :=
 (.ite (Bg x.OL x.SH)
 (.need (A3 x.OL x.QF.n) <|
 (.call con_f0 ((x.QF.get (Int.toNat x.OL)), x.EY) fun (y2 : R_f0) =>
 (.ite (!y2)
 (.ret ((Bx.mk true (TRr.mk (TRc.mk 0 (Sl.mk true 0 (fun _i3 => (0 : Int)))) (Bx.mk true (TSs.mk (Sl.mk true 0 (fun _i3 => (TSo.mk 0 0 0))) 0)) 0 false)), 3))
 (.AM S_fc_15 D_fc_15 (X_fc_15.mk x.QF x.SH (IntKind.i64.wrap (x.OL + 1)) x.EY)))))
 (.ret ((Bx.mk false x.EY), 0)))
theorem sd_fc_15 (D_fc_15 : AU X_fc_15 R_fc) (x : X_fc_15) : (tt_fc_15 D_fc_15 x).AJ :=
 (TT.sI (TT.sN (TT.sC fun _ => (TT.sI TT.sR TT.sJ))) TT.sR)
def D_fc_15 : AU X_fc_15 R_fc := AU.loop tt_fc_15
theorem ok_fc_15 : AY J_fc S_fc_15 D_fc_15 :=
 A5 fun D_fc_15 h_15 => lk mxk (lbc h_15 rfl lbn) (sd_fc_15 D_fc_15)
def tt_fc_14 (x : X_fc_14) : TT Tryz.prog R_fc :=
 (.AM S_fc_15 D_fc_15 (X_fc_15.mk x.EK.Ai ((x.EK.Ai.n : Nat) : Int) 0 x.EY))
theorem sd_fc_14 (x : X_fc_14) : (tt_fc_14 x).AJ :=
 TT.sJ
def D_fc_14 : AU X_fc_14 R_fc := .of tt_fc_14
theorem ok_fc_14 : AY J_fc S_fc_14 D_fc_14 :=
 lk mxk (lbc ok_fc_15 rfl lbn) sd_fc_14
def tt_fc_13 (D_fc_9 : AU X_fc_9 R_fc) (x : X_fc_13) : TT Tryz.prog R_fc :=
 (.AM S_fc_9 D_fc_9 (X_fc_9.mk x.EK x.Qz (IntKind.i64.wrap (x.NA + 1)) x.EY))
theorem sd_fc_13 (D_fc_9 : AU X_fc_9 R_fc) (x : X_fc_13) : (tt_fc_13 D_fc_9 x).AJ :=
 TT.sJ
def D_fc_13 (D_fc_9 : AU X_fc_9 R_fc) : AU X_fc_13 R_fc := .of (tt_fc_13 D_fc_9)
theorem ok_fc_13 (D_fc_9 : AU X_fc_9 R_fc) (h_9 : AY J_fc S_fc_9 D_fc_9) : AY J_fc S_fc_13 (D_fc_13 D_fc_9) :=
 lk mxk (lbc h_9 rfl (lbc ok_fc_15 rfl (lbc ok_fc_14 rfl lbn))) (sd_fc_13 D_fc_9)
def tt_fc_9 (D_fc_9 : AU X_fc_9 R_fc) (x : X_fc_9) : TT Tryz.prog R_fc :=
 (.ite (Bg x.NA x.Qz)
 (.need (A3 x.NA x.EY.AA.AD.n) <|
 (.need ((Nat.beq x.EY.AA.AD.n x.EY.AA.AD.n) && true) <|
 (.ite (Bg x.EY.AA.tail (x.EY.AA.AD.get ((0 : Nat) + (Int.toNat x.NA))))
 (.need ((true && true) && (Nat.beq x.EY.AA.AD.n x.EY.AA.AD.n)) <|
 (.ret ((Bx.mk true (TRr.mk (TRc.mk 0 (Sl.mk true 0 (fun _i2 => (0 : Int)))) (Bx.mk true (TSs.mk (Sl.mk true 0 (fun _i2 => (TSo.mk 0 0 0))) 0)) 0 false)), 3)))
 (.ite (Bg x.EY.most (IntKind.u64.wrap (x.EY.AA.tail - (x.EY.AA.AD.get ((0 : Nat) + (Int.toNat x.NA))))))
 (.need ((true && true) && (Nat.beq x.EY.AA.AD.n x.EY.AA.AD.n)) <|
 (.ret ((Bx.mk true (TRr.mk (TRc.mk 0 (Sl.mk true 0 (fun _i2 => (0 : Int)))) (Bx.mk true (TSs.mk (Sl.mk true 0 (fun _i2 => (TSo.mk 0 0 0))) 0)) 0 false)), 3)))
 (.AM S_fc_13 (D_fc_13 D_fc_9) (X_fc_13.mk x.EK x.Qz x.NA x.EY))))))
 (.need ((true && true) && (Nat.beq x.EY.AA.AD.n x.EY.AA.AD.n)) <|
 (.AM S_fc_14 D_fc_14 (X_fc_14.mk x.EK x.EY))))
theorem sd_fc_9 (D_fc_9 : AU X_fc_9 R_fc) (x : X_fc_9) : (tt_fc_9 D_fc_9 x).AJ :=
 (TT.sI (TT.sN (TT.sN (TT.sI (TT.sN TT.sR) (TT.sI (TT.sN TT.sR) TT.sJ)))) (TT.sN TT.sJ))
def D_fc_9 : AU X_fc_9 R_fc := AU.loop tt_fc_9
theorem ok_fc_9 : AY J_fc S_fc_9 D_fc_9 :=
 A5 fun D_fc_9 h_9 => lk mxk (lbc h_9 rfl (lbc ok_fc_15 rfl (lbc ok_fc_14 rfl (lbc (ok_fc_13 D_fc_9 h_9) rfl lbn)))) (sd_fc_9 D_fc_9)
def tt_fc_7 (x : X_fc_7) : TT Tryz.prog R_fc :=
 (.call con_f1w x.EK.AV fun (y1 : R_f1w) =>
 (.AM S_fc_9 D_fc_9 (X_fc_9.mk x.EK ((y1.n : Nat) : Int) 0 (TRr.mk (TRc.mk x.EK.Ax y1) x.l_8 x.EY.most x.EK.Ao))))
theorem sd_fc_7 (x : X_fc_7) : (tt_fc_7 x).AJ :=
 (TT.sC fun _ => TT.sJ)
def D_fc_7 : AU X_fc_7 R_fc := .of tt_fc_7
theorem ok_fc_7 : AY J_fc S_fc_7 D_fc_7 :=
 lk mxk (lbc ok_fc_15 rfl (lbc ok_fc_14 rfl (lbc ok_fc_9 rfl lbn))) sd_fc_7
def tt_fc (x : X_fc) : TT Tryz.prog R_fc :=
 (.call con_f2p x.fst fun (y1 : R_f2p) =>
 (.ite (!(AW y1.snd 0))
 (.ret ((Bx.mk true (TRr.mk (TRc.mk 0 (Sl.mk true 0 (fun _i2 => (0 : Int)))) (Bx.mk true (TSs.mk (Sl.mk true 0 (fun _i2 => (TSo.mk 0 0 0))) 0)) 0 false)), y1.snd))
 (.call con_fy (x.fst.DE, (x.fst.AR, x.snd.Ai)) fun (y2 : R_fy) =>
 (.ite (!(AW y2.snd 0))
 (.ret ((Bx.mk true (TRr.mk (TRc.mk 0 (Sl.mk true 0 (fun _i3 => (0 : Int)))) (Bx.mk true (TSs.mk (Sl.mk true 0 (fun _i3 => (TSo.mk 0 0 0))) 0)) 0 false)), 3))
 (.ite (!(AW ((x.snd.AV.n : Nat) : Int) x.fst.AR))
 (.ret ((Bx.mk true (TRr.mk (TRc.mk 0 (Sl.mk true 0 (fun _i3 => (0 : Int)))) (Bx.mk true (TSs.mk (Sl.mk true 0 (fun _i3 => (TSo.mk 0 0 0))) 0)) 0 false)), 3))
 (.ite (Bm 4611686018427387904 x.snd.Ax)
 (.ret ((Bx.mk true (TRr.mk (TRc.mk 0 (Sl.mk true 0 (fun _i3 => (0 : Int)))) (Bx.mk true (TSs.mk (Sl.mk true 0 (fun _i3 => (TSo.mk 0 0 0))) 0)) 0 false)), 3))
 (.need (!y1.fst.nil) <|
 (.AM S_fc_7 D_fc_7 (X_fc_7.mk x.snd y2.fst y1.fst.x)))))))))
theorem sd_fc (x : X_fc) : (tt_fc x).AJ :=
 (TT.sC fun _ => (TT.sI TT.sR (TT.sC fun _ => (TT.sI TT.sR (TT.sI TT.sR (TT.sI TT.sR (TT.sN TT.sJ)))))))
def D_fc : AU X_fc R_fc := .of tt_fc
def con_fc : BC Tryz.prog :=
 Br 57 J_fc S_fc D_fc 2 0 [.any, sh_TRs] (lk mxk (lbc ok_fc_15 rfl (lbc ok_fc_14 rfl (lbc ok_fc_9 rfl (lbc ok_fc_7 rfl lbn)))) sd_fc)
abbrev X_fg : Type := Int × TFa
abbrev R_fg : Type := (Bx TRr)
abbrev RR_fg : Type := (Bx TRr) × TFa
abbrev p_fg (y : RR_fg) : TFa := y.2
abbrev w_fg (x : X_fg) : TFa := x.2
def J_fg : BH Tryz.prog :=
 BN Tryz.prog Tryz.f80 43 [(22, 1), (42, 1)] [(2, [.back (.loc 18 0)]), (3, [.back (.loc 18 0)]), (4, [.back (.loc 37 0), .back (.loc 34 0), .back (.loc 18 0)])] [(3, [.IC (.par 0) [.B8 2 3] 34])] [.back (.loc 37 0), .back (.loc 34 0), .back (.loc 18 0), .Eg 4] [hbox_TRr] [sh_TFa] [con_fc, con_f1k] RR_fg [(0, [⟨.loc 34 0, .par 0, [.B8 2 3], none, none⟩]), (3, [⟨.loc 34 0, .par 0, [.B8 2 3], none, none⟩])] fun y => [ebox_TRr y.1, e_TFa y.2]
def S_fg : AO :=
 Ah Tryz.f80 2 1 X_fg (fun x => [(V.ptr (.par 0) []), (V.int .i64) x.1, e_TFa x.2]) fun l => (dI (at_ l 1), d_TFa (at_ l 2))
structure X_fg_3 where
 GD : Int
 Ag : TFa
def S_fg_3 : AO :=
 Ad Tryz.f80 3 (an [0, 1]) [sh_TFa] [] X_fg_3 (fun x => [(V.ptr (.par 0) []), (V.int .i64) x.GD, e_TFa x.Ag]) fun l => ⟨dI (at_ l 1), d_TFa (at_ l 2)⟩
abbrev w_fg_3 (x : X_fg_3) : TFa := (x.Ag)
def tt_fg_3 (x : X_fg_3) : TT Tryz.prog RR_fg :=
 (.need (A3 x.GD x.Ag.p.AF.n) <|
 (.need (A3 x.GD x.Ag.rings.n) <|
 (.need (((Nat.beq x.Ag.rings.n x.Ag.rings.n) && true) && (!(x.Ag.rings.get ((0 : Nat) + (Int.toNat x.GD))).nil)) <|
 (.call con_f1k (x.Ag.rings.get ((0 : Nat) + (Int.toNat x.GD))).x fun (y1 : R_f1k) =>
 (.call con_fc ((x.Ag.p.AF.get (Int.toNat x.GD)), y1) fun (y2 : R_fc) =>
 (.need ((true && true) && (((Nat.beq x.Ag.rings.n x.Ag.rings.n) && (Nat.blt ((0 : Nat) + (Int.toNat x.GD)) x.Ag.rings.n)) && (!(x.Ag.rings.get ((0 : Nat) + (Int.toNat x.GD))).nil))) <|
 (.side (((fun v : Nat → V => v = v) (fun i3 => (cond (Nat.beq i3 ((0 : Nat) + (Int.toNat x.GD))) (V.ptr (Id.loc 37 0) List.nil) (V.Aj (x.Ag.rings.get i3).nil (V.cons (V.cons (V.int IntKind.u64 (x.Ag.rings.get i3).x.AA.tail) (V.cons (V.A7 36 1 (x.Ag.rings.get i3).x.AA.AD.nil (x.Ag.rings.get i3).x.AA.AD.n (fun i4 => (V.int IntKind.u64 ((x.Ag.rings.get i3).x.AA.AD.get i4)))) V.unit)) (V.cons (V.Aj (x.Ag.rings.get i3).x.s.nil (V.cons (V.A7 175 3 (x.Ag.rings.get i3).x.s.x.l.nil (x.Ag.rings.get i3).x.s.x.l.n (fun i4 => (V.cons (V.int IntKind.u64 ((x.Ag.rings.get i3).x.s.x.l.get i4).AP) (V.cons (V.int IntKind.u64 ((x.Ag.rings.get i3).x.s.x.l.get i4).Value) (V.cons (V.int IntKind.i64 ((x.Ag.rings.get i3).x.s.x.l.get i4).Left) V.unit))))) (V.cons (V.int IntKind.i64 (x.Ag.rings.get i3).x.s.x.AX) V.unit))) (V.cons (V.int IntKind.u64 (x.Ag.rings.get i3).x.most) (V.cons (V.bool (x.Ag.rings.get i3).x.closed) V.unit)))))))) ∧ (((fun v : V => v = v) (V.cons (V.cons (V.int IntKind.u64 (x.Ag.rings.get ((0 : Nat) + (Int.toNat x.GD))).x.AA.tail) (V.cons (V.A7 36 1 (x.Ag.rings.get ((0 : Nat) + (Int.toNat x.GD))).x.AA.AD.nil (x.Ag.rings.get ((0 : Nat) + (Int.toNat x.GD))).x.AA.AD.n (fun i3 => (V.int IntKind.u64 ((x.Ag.rings.get ((0 : Nat) + (Int.toNat x.GD))).x.AA.AD.get i3)))) V.unit)) (V.cons (V.Aj (x.Ag.rings.get ((0 : Nat) + (Int.toNat x.GD))).x.s.nil (V.cons (V.A7 175 3 (x.Ag.rings.get ((0 : Nat) + (Int.toNat x.GD))).x.s.x.l.nil (x.Ag.rings.get ((0 : Nat) + (Int.toNat x.GD))).x.s.x.l.n (fun i3 => (V.cons (V.int IntKind.u64 ((x.Ag.rings.get ((0 : Nat) + (Int.toNat x.GD))).x.s.x.l.get i3).AP) (V.cons (V.int IntKind.u64 ((x.Ag.rings.get ((0 : Nat) + (Int.toNat x.GD))).x.s.x.l.get i3).Value) (V.cons (V.int IntKind.i64 ((x.Ag.rings.get ((0 : Nat) + (Int.toNat x.GD))).x.s.x.l.get i3).Left) V.unit))))) (V.cons (V.int IntKind.i64 (x.Ag.rings.get ((0 : Nat) + (Int.toNat x.GD))).x.s.x.AX) V.unit))) (V.cons (V.int IntKind.u64 (x.Ag.rings.get ((0 : Nat) + (Int.toNat x.GD))).x.most) (V.cons (V.bool (x.Ag.rings.get ((0 : Nat) + (Int.toNat x.GD))).x.closed) V.unit))))) ∧ ((fun v : V => v = v) (V.Aj (x.Ag.rings.get ((0 : Nat) + (Int.toNat x.GD))).nil (V.cons (V.cons (V.int IntKind.u64 (x.Ag.rings.get ((0 : Nat) + (Int.toNat x.GD))).x.AA.tail) (V.cons (V.A7 36 1 (x.Ag.rings.get ((0 : Nat) + (Int.toNat x.GD))).x.AA.AD.nil (x.Ag.rings.get ((0 : Nat) + (Int.toNat x.GD))).x.AA.AD.n (fun i3 => (V.int IntKind.u64 ((x.Ag.rings.get ((0 : Nat) + (Int.toNat x.GD))).x.AA.AD.get i3)))) V.unit)) (V.cons (V.Aj (x.Ag.rings.get ((0 : Nat) + (Int.toNat x.GD))).x.s.nil (V.cons (V.A7 175 3 (x.Ag.rings.get ((0 : Nat) + (Int.toNat x.GD))).x.s.x.l.nil (x.Ag.rings.get ((0 : Nat) + (Int.toNat x.GD))).x.s.x.l.n (fun i3 => (V.cons (V.int IntKind.u64 ((x.Ag.rings.get ((0 : Nat) + (Int.toNat x.GD))).x.s.x.l.get i3).AP) (V.cons (V.int IntKind.u64 ((x.Ag.rings.get ((0 : Nat) + (Int.toNat x.GD))).x.s.x.l.get i3).Value) (V.cons (V.int IntKind.i64 ((x.Ag.rings.get ((0 : Nat) + (Int.toNat x.GD))).x.s.x.l.get i3).Left) V.unit))))) (V.cons (V.int IntKind.i64 (x.Ag.rings.get ((0 : Nat) + (Int.toNat x.GD))).x.s.x.AX) V.unit))) (V.cons (V.int IntKind.u64 (x.Ag.rings.get ((0 : Nat) + (Int.toNat x.GD))).x.most) (V.cons (V.bool (x.Ag.rings.get ((0 : Nat) + (Int.toNat x.GD))).x.closed) V.unit)))))))) <|
 (.need ((true && true) && (Nat.beq x.Ag.rings.n x.Ag.rings.n)) <|
 (.ret (y2.fst, x.Ag))))))))))
theorem sd_fg_3 (x : X_fg_3) : (tt_fg_3 x).AJ :=
 (TT.sN (TT.sN (TT.sN (TT.sC fun _ => (TT.sC fun _ => (TT.sN (TT.sS ⟨rfl, ⟨rfl, rfl⟩⟩ (TT.sN TT.sR))))))))
theorem roT_fg_3 (x : X_fg_3) : TT.Ro p_fg (w_fg_3 x) (tt_fg_3 x) :=
 (TT.rN (TT.rN (TT.rN (TT.rC fun _ => (TT.rC fun _ => (TT.rN (TT.rS (TT.rN (TT.rR rfl)))))))))
def D_fg_3 : AU X_fg_3 RR_fg := .of tt_fg_3
theorem ok_fg_3 : AY J_fg S_fg_3 D_fg_3 :=
 lk mxk lbn sd_fg_3
theorem ro_fg_3 : ∀ x y, D_fg_3.rel x y → p_fg y = w_fg_3 x :=
 roT_fg_3 
def tt_fg (x : X_fg) : TT Tryz.prog RR_fg :=
 (.ite (Bg x.fst 0)
 (.ret ((Bx.mk true (TRr.mk (TRc.mk 0 (Sl.mk true 0 (fun _i1 => (0 : Int)))) (Bx.mk true (TSs.mk (Sl.mk true 0 (fun _i1 => (TSo.mk 0 0 0))) 0)) 0 false)), x.snd))
 (.ite (Bm ((x.snd.rings.n : Nat) : Int) x.fst)
 (.need ((true && true) && (Nat.beq x.snd.rings.n x.snd.rings.n)) <|
 (.ret ((Bx.mk true (TRr.mk (TRc.mk 0 (Sl.mk true 0 (fun _i1 => (0 : Int)))) (Bx.mk true (TSs.mk (Sl.mk true 0 (fun _i1 => (TSo.mk 0 0 0))) 0)) 0 false)), x.snd)))
 (.need ((true && true) && (Nat.beq x.snd.rings.n x.snd.rings.n)) <|
 (.AM S_fg_3 D_fg_3 (X_fg_3.mk x.fst x.snd)))))
theorem sd_fg (x : X_fg) : (tt_fg x).AJ :=
 (TT.sI TT.sR (TT.sI (TT.sN TT.sR) (TT.sN TT.sJ)))
theorem roT_fg (x : X_fg) : TT.Ro p_fg (w_fg x) (tt_fg x) :=
 (TT.rI (TT.rR rfl) (TT.rI (TT.rN (TT.rR rfl)) (TT.rN (TT.rJ (ro_fg_3 _)))))
def D_fg : AU X_fg R_fg := .ro (.of tt_fg) (fun y => (y.1)) (fun y x => (y, x.2)) fun x y h => congrArg (fun o => (y.1, o)) (roT_fg x y h)
def con_fg : BC Tryz.prog :=
 DT 80 J_fg S_fg (.of tt_fg) D_fg (fun y x => (y, x.2)) (fun y => ebox_TRr y) 2 1 [.any, .any] (lk mxk (lbc ok_fg_3 rfl lbn) sd_fg) (fun x => ⟨(nu_e_TFa : ∀ y, (e_TFa y).Ch) (x.2), trivial⟩)
abbrev X_fz : Type := Int × TRc
abbrev R_fz : Type := Bool
abbrev RR_fz : Type := Bool × TRc
abbrev p_fz (y : RR_fz) : TRc := y.2
abbrev w_fz (x : X_fz) : TRc := x.2
def J_fz : BH Tryz.prog :=
 BN Tryz.prog Tryz.f154 16 [] [] [] [.back (.loc 12 0)] [.any] [sh_TRc] [] RR_fz [] fun y => [V.bool y.1, e_TRc y.2]
def S_fz : AO :=
 Ah Tryz.f154 2 1 X_fz (fun x => [(V.ptr (.par 0) []), (V.int .i64) x.1, e_TRc x.2]) fun l => (dI (at_ l 1), d_TRc (at_ l 2))
def tt_fz (x : X_fz) : TT Tryz.prog RR_fz :=
 (.ite (Bm 0 x.fst)
 (.need ((true && true) && (Nat.beq x.snd.AD.n x.snd.AD.n)) <|
 (.ret ((Bg x.fst ((x.snd.AD.n : Nat) : Int)), x.snd)))
 (.ret (false, x.snd)))
theorem sd_fz (x : X_fz) : (tt_fz x).AJ :=
 (TT.sI (TT.sN TT.sR) TT.sR)
theorem roT_fz (x : X_fz) : TT.Ro p_fz (w_fz x) (tt_fz x) :=
 (TT.rI (TT.rN (TT.rR rfl)) (TT.rR rfl))
def D_fz : AU X_fz R_fz := .ro (.of tt_fz) (fun y => (y.1)) (fun y x => (y, x.2)) fun x y h => congrArg (fun o => (y.1, o)) (roT_fz x y h)
def con_fz : BC Tryz.prog :=
 DT 154 J_fz S_fz (.of tt_fz) D_fz (fun y x => (y, x.2)) (fun y => V.bool y) 2 1 [.any, .any] (lk mxk lbn sd_fz) (fun x => ⟨(nu_e_TRc : ∀ y, (e_TRc y).Ch) (x.2), trivial⟩)
structure TRc_L1 where
 tail : Int
 AD : Ln
def d_TRc_L1 (v : V) : TRc_L1 :=
 ⟨dI (fd v 0), Rq (fd v 1)⟩
def e_TRc_L1_1 (x : TRc_L1) : V :=
 V.cons ((V.int .u64) x.tail) (V.cons ((eLn (.par 1) 36 1) x.AD) (V.unit))
theorem nu_e_TRc_L1_1 (x : TRc_L1) : (e_TRc_L1_1 x).Ch := ⟨trivial, trivial, trivial⟩
abbrev X_f14 : Type := Int × TRc_L1 × (Ar Int)
abbrev R_f14 : Type := Bool
abbrev RR_f14 : Type := Bool × TRc_L1 × (Ar Int)
abbrev p_f14 (y : RR_f14) : TRc_L1 × (Ar Int) := y.2
abbrev w_f14 (x : X_f14) : TRc_L1 × (Ar Int) := x.2
def J_f14 : BH Tryz.prog :=
 BN Tryz.prog Tryz.f154 16 [] [] [] [] [.any] [.any, .any] [] RR_f14 [] fun y => [V.bool y.1, e_TRc_L1_1 y.2.1, (Md 1 (V.int .u64)) y.2.2]
def S_f14 : AO :=
 Ah Tryz.f154 2 2 X_f14 (fun x => [(V.ptr (.par 0) []), (V.int .i64) x.1, e_TRc_L1_1 x.2.1, (Md 1 (V.int .u64)) x.2.2]) fun l => (dI (at_ l 1), d_TRc_L1 (at_ l 2), (Rb dI) (at_ l 3))
def tt_f14 (x : X_f14) : TT Tryz.prog RR_f14 :=
 (.ite (Bm 0 x.fst)
 (.ret ((Bg x.fst ((x.snd.fst.AD.n : Nat) : Int)), x.snd))
 (.ret (false, x.snd)))
theorem sd_f14 (x : X_f14) : (tt_f14 x).AJ :=
 (TT.sI TT.sR TT.sR)
theorem roT_f14 (x : X_f14) : TT.Ro p_f14 (w_f14 x) (tt_f14 x) :=
 (TT.rI (TT.rR rfl) (TT.rR rfl))
def D_f14 : AU X_f14 R_f14 := .ro (.of tt_f14) (fun y => (y.1)) (fun y x => (y, x.2)) fun x y h => congrArg (fun o => (y.1, o)) (roT_f14 x y h)
def con_f14 : BC Tryz.prog :=
 DT 154 J_f14 S_f14 (.of tt_f14) D_f14 (fun y x => (y, x.2)) (fun y => V.bool y) 2 2 [.any, .any] (lk mxk lbn sd_f14) (fun x => ⟨(nu_e_TRc_L1_1 : ∀ y, (e_TRc_L1_1 y).Ch) (x.2.1), (fun _ _ => trivial : ∀ y, ((Md 1 (V.int .u64)) y).Ch) (x.2.2), trivial⟩)
abbrev X_f18 : Type := Int × TRr
abbrev R_f18 : Type := Bool
abbrev RR_f18 : Type := Bool × TRr
abbrev p_f18 (y : RR_f18) : TRr := y.2
abbrev w_f18 (x : X_f18) : TRr := x.2
def J_f18 : BH Tryz.prog :=
 BN Tryz.prog Tryz.f134 31 [] [] [(1, [.IC (.par 0) [.B8 0 0, .B8 1 1] 12, .IC (.par 0) [.B8 0 0, .B8 1 1] 19])] [.back (.loc 19 0), .back (.loc 12 0)] [.any] [sh_TRr] [con_f14] RR_f18 [(0, [⟨.loc 12 0, .par 0, [.B8 0 0, .B8 1 1], none, none⟩, ⟨.loc 19 0, .par 0, [.B8 0 0, .B8 1 1], none, none⟩])] fun y => [V.bool y.1, e_TRr y.2]
def S_f18 : AO :=
 Ah Tryz.f134 2 1 X_f18 (fun x => [(V.ptr (.par 0) []), (V.int .i64) x.1, e_TRr x.2]) fun l => (dI (at_ l 1), d_TRr (at_ l 2))
def tt_f18 (x : X_f18) : TT Tryz.prog RR_f18 :=
 (.call con_f14 (x.fst, ((TRc_L1.mk x.snd.AA.tail (Ln.mk x.snd.AA.AD.nil x.snd.AA.AD.n)), (Ar.mk x.snd.AA.AD.n x.snd.AA.AD.get))) fun (y1 : R_f14) =>
 (.ite (!y1)
 (.need ((true && true) && (Nat.beq x.snd.AA.AD.n x.snd.AA.AD.n)) <|
 (.ret (true, x.snd)))
 (.need (A3 x.fst x.snd.AA.AD.n) <|
 (.need ((Nat.beq x.snd.AA.AD.n x.snd.AA.AD.n) && true) <|
 (.need ((true && true) && (Nat.beq x.snd.AA.AD.n x.snd.AA.AD.n)) <|
 (.ret ((AW (x.snd.AA.AD.get ((0 : Nat) + (Int.toNat x.fst))) x.snd.AA.tail), x.snd)))))))
theorem sd_f18 (x : X_f18) : (tt_f18 x).AJ :=
 (TT.sC fun _ => (TT.sI (TT.sN TT.sR) (TT.sN (TT.sN (TT.sN TT.sR)))))
theorem roT_f18 (x : X_f18) : TT.Ro p_f18 (w_f18 x) (tt_f18 x) :=
 (TT.rC fun _ => (TT.rI (TT.rN (TT.rR rfl)) (TT.rN (TT.rN (TT.rN (TT.rR rfl))))))
def D_f18 : AU X_f18 R_f18 := .ro (.of tt_f18) (fun y => (y.1)) (fun y x => (y, x.2)) fun x y h => congrArg (fun o => (y.1, o)) (roT_f18 x y h)
def con_f18 : BC Tryz.prog :=
 DT 134 J_f18 S_f18 (.of tt_f18) D_f18 (fun y x => (y, x.2)) (fun y => V.bool y) 2 1 [.any, .any] (lk mxk lbn sd_f18) (fun x => ⟨(nu_e_TRr : ∀ y, (e_TRr y).Ch) (x.2), trivial⟩)
abbrev X_f15 : Type := TRr
abbrev R_f15 : Type := Bool
abbrev RR_f15 : Type := Bool × TRr
abbrev p_f15 (y : RR_f15) : TRr := y.2
abbrev w_f15 (x : X_f15) : TRr := x
def J_f15 : BH Tryz.prog :=
 BN Tryz.prog Tryz.f115 11 [] [] [] [] [.any] [sh_TRr] [] RR_f15 [] fun y => [V.bool y.1, e_TRr y.2]
def S_f15 : AO :=
 Ah Tryz.f115 1 1 X_f15 (fun x => [(V.ptr (.par 0) []), e_TRr x]) fun l => (d_TRr (at_ l 1))
def tt_f15 (x : X_f15) : TT Tryz.prog RR_f15 :=
 (.ret (x.closed, x))
theorem sd_f15 (x : X_f15) : (tt_f15 x).AJ :=
 TT.sR
theorem roT_f15 (x : X_f15) : TT.Ro p_f15 (w_f15 x) (tt_f15 x) :=
 (TT.rR rfl)
def D_f15 : AU X_f15 R_f15 := .ro (.of tt_f15) (fun y => (y.1)) (fun y x => (y, x)) fun x y h => congrArg (fun o => (y.1, o)) (roT_f15 x y h)
def con_f15 : BC Tryz.prog :=
 DT 115 J_f15 S_f15 (.of tt_f15) D_f15 (fun y x => (y, x)) (fun y => V.bool y) 1 1 [.any] (lk mxk lbn sd_f15) (fun x => ⟨(nu_e_TRr : ∀ y, (e_TRr y).Ch) (x), trivial⟩)
abbrev X_f5 : Type := (Ar Int)
abbrev R_f5 : Type := Int
abbrev RR_f5 : Type := Int × (Ar Int)
abbrev p_f5 (y : RR_f5) : (Ar Int) := y.2
abbrev w_f5 (x : X_f5) : (Ar Int) := x
def J_f5 : BH Tryz.prog :=
 BN Tryz.prog Tryz.f198 25 [] [] [] [] [.any] [.any] [] RR_f5 [] fun y => [(V.int .u64) y.1, (Md 1 (V.int .u64)) y.2]
def S_f5 : AO :=
 Ah Tryz.f198 1 1 X_f5 (fun x => [(V.own (.par 0) [] 1 x.n 0 x.n), (Md 1 (V.int .u64)) x]) fun l => ((Rb dI) (at_ l 1))
structure X_f5_3 where
 Ag : (Ar Int)
def S_f5_3 : AO :=
 Ad Tryz.f198 3 [(0, .any)] [.any] [] X_f5_3 (fun x => [(V.own (.par 0) [] 1 x.Ag.n 0 x.Ag.n), (Md 1 (V.int .u64)) x.Ag]) fun l => ⟨(Rb dI) (at_ l 1)⟩
structure X_f5_5 where
 BM : Int
 FG : Int
 Ag : (Ar Int)
def S_f5_5 : AO :=
 Ad Tryz.f198 5 (an [0, 3, 4]) [.any] [] X_f5_5 (fun x => [(V.own (.par 0) [] 1 x.Ag.n 0 x.Ag.n), (V.int .u64) x.BM, (V.int .i64) x.FG, (Md 1 (V.int .u64)) x.Ag]) fun l => ⟨dI (at_ l 1), dI (at_ l 2), (Rb dI) (at_ l 3)⟩
abbrev w_f5_3 (x : X_f5_3) : (Ar Int) := (x.Ag)
abbrev w_f5_5 (x : X_f5_5) : (Ar Int) := (x.Ag)
def tt_f5_5 (D_f5_5 : AU X_f5_5 RR_f5) (x : X_f5_5) : TT Tryz.prog RR_f5 :=
 (.ite (Bg x.FG ((x.Ag.n : Nat) : Int))
 (.need (A3 x.FG x.Ag.n) <|
 (.need ((Nat.beq x.Ag.n x.Ag.n) && true) <|
 (.AM S_f5_5 D_f5_5 (X_f5_5.mk (Oh x.BM (x.Ag.get ((0 : Nat) + (Int.toNat x.FG)))) (IntKind.i64.wrap (x.FG + 1)) x.Ag))))
 (.ret (x.BM, x.Ag)))
theorem sd_f5_5 (D_f5_5 : AU X_f5_5 RR_f5) (x : X_f5_5) : (tt_f5_5 D_f5_5 x).AJ :=
 (TT.sI (TT.sN (TT.sN TT.sJ)) TT.sR)
theorem roT_f5_5 (D_f5_5 : AU X_f5_5 RR_f5) (r5 : ∀ x y, D_f5_5.rel x y → p_f5 y = w_f5_5 x) (x : X_f5_5) : TT.Ro p_f5 (w_f5_5 x) (tt_f5_5 D_f5_5 x) :=
 (TT.rI (TT.rN (TT.rN (TT.rJ (r5 _)))) (TT.rR rfl))
def D_f5_5 : AU X_f5_5 RR_f5 := AU.loop tt_f5_5
theorem ok_f5_5 : AY J_f5 S_f5_5 D_f5_5 :=
 A5 fun D_f5_5 h_5 => lk mxk (lbc h_5 rfl lbn) (sd_f5_5 D_f5_5)
theorem ro_f5_5 : ∀ x y, D_f5_5.rel x y → p_f5 y = w_f5_5 x :=
 KL fun D_f5_5 r5 => roT_f5_5 D_f5_5 r5
def tt_f5_3 (x : X_f5_3) : TT Tryz.prog RR_f5 :=
 (.need (A3 0 x.Ag.n) <|
 (.need ((Nat.beq x.Ag.n x.Ag.n) && true) <|
 (.AM S_f5_5 D_f5_5 (X_f5_5.mk (x.Ag.get ((0 : Nat) + (Int.toNat 0))) 1 x.Ag))))
theorem sd_f5_3 (x : X_f5_3) : (tt_f5_3 x).AJ :=
 (TT.sN (TT.sN TT.sJ))
theorem roT_f5_3 (x : X_f5_3) : TT.Ro p_f5 (w_f5_3 x) (tt_f5_3 x) :=
 (TT.rN (TT.rN (TT.rJ (ro_f5_5 _))))
def D_f5_3 : AU X_f5_3 RR_f5 := .of tt_f5_3
theorem ok_f5_3 : AY J_f5 S_f5_3 D_f5_3 :=
 lk mxk (lbc ok_f5_5 rfl lbn) sd_f5_3
theorem ro_f5_3 : ∀ x y, D_f5_3.rel x y → p_f5 y = w_f5_3 x :=
 roT_f5_3 
def tt_f5 (x : X_f5) : TT Tryz.prog RR_f5 :=
 (.ite (Bg ((x.n : Nat) : Int) 1)
 .fail
 (.AM S_f5_3 D_f5_3 (X_f5_3.mk x)))
theorem sd_f5 (x : X_f5) : (tt_f5 x).AJ :=
 (TT.sI TT.Uh TT.sJ)
theorem roT_f5 (x : X_f5) : TT.Ro p_f5 (w_f5 x) (tt_f5 x) :=
 (TT.rI TT.Tc (TT.rJ (ro_f5_3 _)))
def D_f5 : AU X_f5 R_f5 := .ro (.of tt_f5) (fun y => (y.1)) (fun y x => (y, x)) fun x y h => congrArg (fun o => (y.1, o)) (roT_f5 x y h)
def con_f5 : BC Tryz.prog :=
 DT 198 J_f5 S_f5 (.of tt_f5) D_f5 (fun y x => (y, x)) (fun y => (V.int .u64) y) 1 1 [.any] (lk mxk (lbc ok_f5_5 rfl (lbc ok_f5_3 rfl lbn)) sd_f5) (fun x => ⟨(fun _ _ => trivial : ∀ y, ((Md 1 (V.int .u64)) y).Ch) (x), trivial⟩)
abbrev X_f1i : Type := TRc
abbrev R_f1i : Type := Int
abbrev RR_f1i : Type := Int × TRc
abbrev p_f1i (y : RR_f1i) : TRc := y.2
abbrev w_f1i (x : X_f1i) : TRc := x
def J_f1i : BH Tryz.prog :=
 BN Tryz.prog Tryz.f173 8 [] [] [] [.back (.loc 6 0)] [.any] [sh_TRc] [con_f5] RR_f1i [] fun y => [(V.int .u64) y.1, e_TRc y.2]
def S_f1i : AO :=
 Ah Tryz.f173 1 1 X_f1i (fun x => [(V.ptr (.par 0) []), e_TRc x]) fun l => (d_TRc (at_ l 1))
def tt_f1i (x : X_f1i) : TT Tryz.prog RR_f1i :=
 (.call con_f5 (Ar.mk x.AD.n x.AD.get) fun (y1 : R_f5) =>
 (.need ((true && true) && (Nat.beq x.AD.n x.AD.n)) <|
 (.ret (y1, x))))
theorem sd_f1i (x : X_f1i) : (tt_f1i x).AJ :=
 (TT.sC fun _ => (TT.sN TT.sR))
theorem roT_f1i (x : X_f1i) : TT.Ro p_f1i (w_f1i x) (tt_f1i x) :=
 (TT.rC fun _ => (TT.rN (TT.rR rfl)))
def D_f1i : AU X_f1i R_f1i := .ro (.of tt_f1i) (fun y => (y.1)) (fun y x => (y, x)) fun x y h => congrArg (fun o => (y.1, o)) (roT_f1i x y h)
def con_f1i : BC Tryz.prog :=
 DT 173 J_f1i S_f1i (.of tt_f1i) D_f1i (fun y x => (y, x)) (fun y => (V.int .u64) y) 1 1 [.any] (lk mxk lbn sd_f1i) (fun x => ⟨(nu_e_TRc : ∀ y, (e_TRc y).Ch) (x), trivial⟩)
abbrev X_f1l : Type := TRr
abbrev R_f1l : Type := Bool
abbrev RR_f1l : Type := Bool × TRr
abbrev p_f1l (y : RR_f1l) : TRr := y.2
abbrev w_f1l (x : X_f1l) : TRr := x
def J_f1l : BH Tryz.prog :=
 BN Tryz.prog Tryz.f135 22 [] [] [] [] [.any] [sh_TRr] [con_f1i] RR_f1l [] fun y => [V.bool y.1, e_TRr y.2]
def S_f1l : AO :=
 Ah Tryz.f135 1 1 X_f1l (fun x => [(V.ptr (.par 0) []), e_TRr x]) fun l => (d_TRr (at_ l 1))
def tt_f1l (x : X_f1l) : TT Tryz.prog RR_f1l :=
 (.call con_f1i x.AA fun (y1 : R_f1i) =>
 (.ret ((Bm x.most (IntKind.u64.wrap (x.AA.tail - y1))), x)))
theorem sd_f1l (x : X_f1l) : (tt_f1l x).AJ :=
 (TT.sC fun _ => TT.sR)
theorem roT_f1l (x : X_f1l) : TT.Ro p_f1l (w_f1l x) (tt_f1l x) :=
 (TT.rC fun _ => (TT.rR rfl))
def D_f1l : AU X_f1l R_f1l := .ro (.of tt_f1l) (fun y => (y.1)) (fun y x => (y, x)) fun x y h => congrArg (fun o => (y.1, o)) (roT_f1l x y h)
def con_f1l : BC Tryz.prog :=
 DT 135 J_f1l S_f1l (.of tt_f1l) D_f1l (fun y x => (y, x)) (fun y => V.bool y) 1 1 [.any] (lk mxk lbn sd_f1l) (fun x => ⟨(nu_e_TRr : ∀ y, (e_TRr y).Ch) (x), trivial⟩)
abbrev X_f3t : Type := TAk × Bool × Bool
abbrev R_f3t : Type := Int × Bool
def J_f3t : BH Tryz.prog :=
 BN Tryz.prog Tryz.f136 21 [(3, 3)] [] [] [] [.any, .any] [] [] R_f3t [] fun y => [V.CN (V.cons ((V.int .i64) y.1) (V.cons (V.bool y.2) (V.unit)))]
def S_f3t : AO :=
 Ah Tryz.f136 3 0 X_f3t (fun x => [e_TAk x.1, V.bool x.2.1, V.bool x.2.2]) fun l => (d_TAk (at_ l 0), dB (at_ l 1), dB (at_ l 2))
def tt_f3t (x : X_f3t) : TT Tryz.prog R_f3t :=
 (.ite x.snd.fst
 (.ret (6, true))
 (.ite (AW x.fst.Mode 0)
 (.ret (5, true))
 (.ite (AW x.fst.Mode 2)
 (.ite x.snd.snd
 (.ret (7, true))
 (.ret (0, false)))
 (.ret (0, false)))))
theorem sd_f3t (x : X_f3t) : (tt_f3t x).AJ :=
 (TT.sI TT.sR (TT.sI TT.sR (TT.sI (TT.sI TT.sR TT.sR) TT.sR)))
def D_f3t : AU X_f3t R_f3t := .of tt_f3t
def con_f3t : BC Tryz.prog :=
 Br 136 J_f3t S_f3t D_f3t 3 0 [.any, .any, .any] (lk mxk lbn sd_f3t)
abbrev X_fr : Type := Int × TRr
abbrev R_fr : Type := Int
abbrev RR_fr : Type := Int × TRr
abbrev p_fr (y : RR_fr) : TRr := y.2
abbrev w_fr (x : X_fr) : TRr := x.2
def J_fr : BH Tryz.prog :=
 BN Tryz.prog Tryz.f101 23 [] [] [] [.back (.loc 19 0)] [.any] [sh_TRr] [con_fz] RR_fr [] fun y => [(V.int .u64) y.1, e_TRr y.2]
def S_fr : AO :=
 Ah Tryz.f101 2 1 X_fr (fun x => [(V.ptr (.par 0) []), (V.int .i64) x.1, e_TRr x.2]) fun l => (dI (at_ l 1), d_TRr (at_ l 2))
structure X_fr_3 where
 FF : Int
 Ag : TRr
def S_fr_3 : AO :=
 Ad Tryz.f101 3 (an [0, 1]) [sh_TRr] [] X_fr_3 (fun x => [(V.ptr (.par 0) []), (V.int .i64) x.FF, e_TRr x.Ag]) fun l => ⟨dI (at_ l 1), d_TRr (at_ l 2)⟩
abbrev w_fr_3 (x : X_fr_3) : TRr := (x.Ag)
def tt_fr_3 (x : X_fr_3) : TT Tryz.prog RR_fr :=
 (.need (A3 x.FF x.Ag.AA.AD.n) <|
 (.need ((Nat.beq x.Ag.AA.AD.n x.Ag.AA.AD.n) && true) <|
 (.need ((true && true) && (Nat.beq x.Ag.AA.AD.n x.Ag.AA.AD.n)) <|
 (.ret ((x.Ag.AA.AD.get ((0 : Nat) + (Int.toNat x.FF))), x.Ag)))))
theorem sd_fr_3 (x : X_fr_3) : (tt_fr_3 x).AJ :=
 (TT.sN (TT.sN (TT.sN TT.sR)))
theorem roT_fr_3 (x : X_fr_3) : TT.Ro p_fr (w_fr_3 x) (tt_fr_3 x) :=
 (TT.rN (TT.rN (TT.rN (TT.rR rfl))))
def D_fr_3 : AU X_fr_3 RR_fr := .of tt_fr_3
theorem ok_fr_3 : AY J_fr S_fr_3 D_fr_3 :=
 lk mxk lbn sd_fr_3
theorem ro_fr_3 : ∀ x y, D_fr_3.rel x y → p_fr y = w_fr_3 x :=
 roT_fr_3 
def tt_fr (x : X_fr) : TT Tryz.prog RR_fr :=
 (.call con_fz (x.fst, x.snd.AA) fun (y1 : R_fz) =>
 (.ite (!y1)
 (.ret (0, x.snd))
 (.AM S_fr_3 D_fr_3 (X_fr_3.mk x.fst x.snd))))
theorem sd_fr (x : X_fr) : (tt_fr x).AJ :=
 (TT.sC fun _ => (TT.sI TT.sR TT.sJ))
theorem roT_fr (x : X_fr) : TT.Ro p_fr (w_fr x) (tt_fr x) :=
 (TT.rC fun _ => (TT.rI (TT.rR rfl) (TT.rJ (ro_fr_3 _))))
def D_fr : AU X_fr R_fr := .ro (.of tt_fr) (fun y => (y.1)) (fun y x => (y, x.2)) fun x y h => congrArg (fun o => (y.1, o)) (roT_fr x y h)
def con_fr : BC Tryz.prog :=
 DT 101 J_fr S_fr (.of tt_fr) D_fr (fun y x => (y, x.2)) (fun y => (V.int .u64) y) 2 1 [.any, .any] (lk mxk (lbc ok_fr_3 rfl lbn) sd_fr) (fun x => ⟨(nu_e_TRr : ∀ y, (e_TRr y).Ch) (x.2), trivial⟩)
abbrev X_f1x : Type := TRr
abbrev R_f1x : Type := Int
abbrev RR_f1x : Type := Int × TRr
abbrev p_f1x (y : RR_f1x) : TRr := y.2
abbrev w_f1x (x : X_f1x) : TRr := x
def J_f1x : BH Tryz.prog :=
 BN Tryz.prog Tryz.f81 10 [] [] [] [] [.any] [sh_TRr] [] RR_f1x [] fun y => [(V.int .u64) y.1, e_TRr y.2]
def S_f1x : AO :=
 Ah Tryz.f81 1 1 X_f1x (fun x => [(V.ptr (.par 0) []), e_TRr x]) fun l => (d_TRr (at_ l 1))
def tt_f1x (x : X_f1x) : TT Tryz.prog RR_f1x :=
 (.ret (x.AA.tail, x))
theorem sd_f1x (x : X_f1x) : (tt_f1x x).AJ :=
 TT.sR
theorem roT_f1x (x : X_f1x) : TT.Ro p_f1x (w_f1x x) (tt_f1x x) :=
 (TT.rR rfl)
def D_f1x : AU X_f1x R_f1x := .ro (.of tt_f1x) (fun y => (y.1)) (fun y x => (y, x)) fun x y h => congrArg (fun o => (y.1, o)) (roT_f1x x y h)
def con_f1x : BC Tryz.prog :=
 DT 81 J_f1x S_f1x (.of tt_f1x) D_f1x (fun y x => (y, x)) (fun y => (V.int .u64) y) 1 1 [.any] (lk mxk lbn sd_f1x) (fun x => ⟨(nu_e_TRr : ∀ y, (e_TRr y).Ch) (x), trivial⟩)
def d_TEv (v : V) : TEv :=
 ⟨dI (fd v 0), dI (fd v 1), dI (fd v 2), dI (fd v 3), dI (fd v 4)⟩
def e_TEv (x : TEv) : V :=
 V.cons ((V.int .i64) x.Thread) (V.cons ((V.int .i64) x.Kind) (V.cons ((V.int .i64) x.Ring) (V.cons ((V.int .u64) x.AG) (V.cons ((V.int .u64) x.Value) (V.unit)))))
theorem nu_e_TEv (x : TEv) : (e_TEv x).Ch := ⟨trivial, trivial, trivial, trivial, trivial, trivial⟩
abbrev X_fu : Type := TAk × TEv × Bool × TFa
abbrev R_fu : Type := TEv × Bool
abbrev RR_fu : Type := TEv × Bool × TFa
abbrev p_fu (y : RR_fu) : TFa := y.2.2
abbrev w_fu (x : X_fu) : TFa := x.2.2.2
def J_fu : BH Tryz.prog :=
 BN Tryz.prog Tryz.f79 61 [(5, 3), (35, 1), (37, 1), (56, 1)] [(2, [.open_ 10])] [] [] [.any, .any] [sh_TFa] [con_fg, con_f15, con_f18, con_f1l, con_fr, con_f1x, con_f3t] RR_fu [] fun y => [V.CN (V.cons (e_TEv y.1) (V.cons (V.bool y.2.1) (V.unit))), e_TFa y.2.2]
def S_fu : AO :=
 Ah Tryz.f79 4 1 X_fu (fun x => [(V.ptr (.par 0) []), e_TAk x.1, e_TEv x.2.1, V.bool x.2.2.1, e_TFa x.2.2.2]) fun l => (d_TAk (at_ l 1), d_TEv (at_ l 2), dB (at_ l 3), d_TFa (at_ l 4))
structure X_fu_5 where
 Sz : Bool
 U6 : TAk
 QJ : Bool
 Ag : TFa
 Fs : TEv
 Gi : TEv
 T1 : TRr
def S_fu_5 : AO :=
 Ad Tryz.f79 5 (an [3, 5, 6, 8, 10, 11]) [sh_TFa] [(.loc 6 0, .any), (.loc 8 0, .any), (.loc 10 1, sh_TRr)] X_fu_5 (fun x => [V.bool x.Sz, (CU e_TAk) x.U6, (V.ptr (.loc 6 0) []), (V.ptr (.loc 8 0) []), (V.ptr (.loc 10 1) []), V.bool x.QJ, e_TFa x.Ag, e_TEv x.Fs, e_TEv x.Gi, e_TRr x.T1]) fun l => ⟨dB (at_ l 0), (CV d_TAk) (at_ l 1), dB (at_ l 5), d_TFa (at_ l 6), d_TEv (at_ l 7), d_TEv (at_ l 8), d_TRr (at_ l 9)⟩
abbrev w_fu_5 (x : X_fu_5) : TFa := (x.Ag)
def tt_fu_5 (x : X_fu_5) : TT Tryz.prog RR_fu :=
 (.ite x.QJ
 (.call con_f15 x.T1 fun (y1 : R_f15) =>
 (.call con_f3t (x.U6, (y1, x.Sz)) fun (y2 : R_f3t) =>
 (.ret ((TEv.mk x.Fs.Thread y2.fst x.U6.Ring x.Fs.AG x.Fs.Value), (y2.snd, x.Ag)))))
 (.call con_fr (x.U6.Reader, x.T1) fun (y1 : R_fr) =>
 (.ite (AW x.U6.Kind 1)
 (.call con_f1x x.T1 fun (y2 : R_f1x) =>
 (.ret ((TEv.mk x.Fs.Thread 1 x.U6.Ring y2 x.Fs.Value), (true, x.Ag))))
 (.ret ((TEv.mk x.Fs.Thread 3 x.U6.Ring y1 x.Fs.Value), (true, x.Ag))))))
theorem sd_fu_5 (x : X_fu_5) : (tt_fu_5 x).AJ :=
 (TT.sI (TT.sC fun _ => (TT.sC fun _ => TT.sR)) (TT.sC fun _ => (TT.sI (TT.sC fun _ => TT.sR) TT.sR)))
theorem roT_fu_5 (x : X_fu_5) : TT.Ro p_fu (w_fu_5 x) (tt_fu_5 x) :=
 (TT.rI (TT.rC fun _ => (TT.rC fun _ => (TT.rR rfl))) (TT.rC fun _ => (TT.rI (TT.rC fun _ => (TT.rR rfl)) (TT.rR rfl))))
def D_fu_5 : AU X_fu_5 RR_fu := .of tt_fu_5
theorem ok_fu_5 : AY J_fu S_fu_5 D_fu_5 :=
 lk mxk lbn sd_fu_5
theorem ro_fu_5 : ∀ x y, D_fu_5.rel x y → p_fu y = w_fu_5 x :=
 roT_fu_5 
def tt_fu (x : X_fu) : TT Tryz.prog RR_fu :=
 (.call con_fg (x.fst.Ring, x.snd.snd.snd) fun (y1 : R_fg) =>
 (.need (!y1.nil) <|
 (.call con_f18 (x.fst.Reader, y1.x) fun (y2 : R_f18) =>
 (.ite (AW x.fst.Kind 1)
 (.call con_f15 y1.x fun (y3 : R_f15) =>
 (.ite y3
 (.AM S_fu_5 D_fu_5 (X_fu_5.mk x.snd.snd.fst x.fst true x.snd.snd.snd x.snd.fst (TEv.mk 0 0 0 0 0) y1.x))
 (.call con_f1l y1.x fun (y4 : R_f1l) =>
 (.AM S_fu_5 D_fu_5 (X_fu_5.mk x.snd.snd.fst x.fst y4 x.snd.snd.snd x.snd.fst (TEv.mk 0 0 0 0 0) y1.x)))))
 (.AM S_fu_5 D_fu_5 (X_fu_5.mk x.snd.snd.fst x.fst y2 x.snd.snd.snd x.snd.fst (TEv.mk 0 0 0 0 0) y1.x))))))
theorem sd_fu (x : X_fu) : (tt_fu x).AJ :=
 (TT.sC fun _ => (TT.sN (TT.sC fun _ => (TT.sI (TT.sC fun _ => (TT.sI TT.sJ (TT.sC fun _ => TT.sJ))) TT.sJ))))
theorem roT_fu (x : X_fu) : TT.Ro p_fu (w_fu x) (tt_fu x) :=
 (TT.rC fun _ => (TT.rN (TT.rC fun _ => (TT.rI (TT.rC fun _ => (TT.rI (TT.rJ (ro_fu_5 _)) (TT.rC fun _ => (TT.rJ (ro_fu_5 _))))) (TT.rJ (ro_fu_5 _))))))
def D_fu : AU X_fu R_fu := .ro (.of tt_fu) (fun y => (y.1, y.2.1)) (fun y x => (y.1, y.2, x.2.2.2)) fun x y h => congrArg (fun o => (y.1, y.2.1, o)) (roT_fu x y h)
def con_fu : BC Tryz.prog :=
 DT 79 J_fu S_fu (.of tt_fu) D_fu (fun y x => (y.1, y.2, x.2.2.2)) (fun y => V.CN (V.cons (e_TEv y.1) (V.cons (V.bool y.2) (V.unit)))) 4 1 [.any, .any, .any, .any] (lk mxk (lbc ok_fu_5 rfl lbn) sd_fu) (fun x => ⟨(nu_e_TFa : ∀ y, (e_TFa y).Ch) (x.2.2.2), trivial⟩)
abbrev X_f1j : Type := TFa
abbrev R_f1j : Type := Int
abbrev RR_f1j : Type := Int × TFa
abbrev p_f1j (y : RR_f1j) : TFa := y.2
abbrev w_f1j (x : X_f1j) : TFa := x
def J_f1j : BH Tryz.prog :=
 BN Tryz.prog Tryz.f56 9 [] [] [] [] [.any] [sh_TFa] [] RR_f1j [] fun y => [(V.int .u64) y.1, e_TFa y.2]
def S_f1j : AO :=
 Ah Tryz.f56 1 1 X_f1j (fun x => [(V.ptr (.par 0) []), e_TFa x]) fun l => (d_TFa (at_ l 1))
def tt_f1j (x : X_f1j) : TT Tryz.prog RR_f1j :=
 (.ret (x.now, x))
theorem sd_f1j (x : X_f1j) : (tt_f1j x).AJ :=
 TT.sR
theorem roT_f1j (x : X_f1j) : TT.Ro p_f1j (w_f1j x) (tt_f1j x) :=
 (TT.rR rfl)
def D_f1j : AU X_f1j R_f1j := .ro (.of tt_f1j) (fun y => (y.1)) (fun y x => (y, x)) fun x y h => congrArg (fun o => (y.1, o)) (roT_f1j x y h)
def con_f1j : BC Tryz.prog :=
 DT 56 J_f1j S_f1j (.of tt_f1j) D_f1j (fun y x => (y, x)) (fun y => (V.int .u64) y) 1 1 [.any] (lk mxk lbn sd_f1j) (fun x => ⟨(nu_e_TFa : ∀ y, (e_TFa y).Ch) (x), trivial⟩)
abbrev Dsl_TRs : Type := (Sl TRs)
def esl_TRs : Dsl_TRs → V := (L4 none 4 e_TRs)
def dsl_TRs : V → Dsl_TRs := (Lk d_TRs)
def hsl_TRs : Sh := (.sl none 4 (e_TRs (d_TRs .undef)))
structure TSt where
 AB : (Sl TTh)
 AF : (Sl TRs)
 FQ : Int
 Reads : Int
 Ba : Bool
def d_TSt (v : V) : TSt :=
 ⟨dsl_TTh (fd v 0), dsl_TRs (fd v 1), dI (fd v 2), dI (fd v 3), dB (fd v 4)⟩
def e_TSt (x : TSt) : V :=
 V.cons (esl_TTh x.AB) (V.cons (esl_TRs x.AF) (V.cons ((V.int .u64) x.FQ) (V.cons ((V.int .u64) x.Reads) (V.cons (V.bool x.Ba) (V.unit)))))
theorem nu_e_TSt (x : TSt) : (e_TSt x).Ch := ⟨trivial, trivial, trivial, trivial, trivial, trivial⟩
def sh_TSt : Sh := (.cons hsl_TTh (.cons hsl_TRs .any))
abbrev X_fi : Type := (Ar TTh)
abbrev R_fi : Type := (Sl TTh)
abbrev RR_fi : Type := (Sl TTh) × (Ar TTh)
abbrev p_fi (y : RR_fi) : (Ar TTh) := y.2
abbrev w_fi (x : X_fi) : (Ar TTh) := x
def J_fi : BH Tryz.prog :=
 BN Tryz.prog Tryz.f46 8 [(5, 1), (6, 1)] [] [] [.Eg 2] [hosl_TTh] [.any] [] RR_fi [] fun y => [eosl_TTh y.1, (Md 14 e_TTh) y.2]
def S_fi : AO :=
 Ah Tryz.f46 1 1 X_fi (fun x => [(V.own (.par 0) [] 14 x.n 0 x.n), (Md 14 e_TTh) x]) fun l => ((Rb d_TTh) (at_ l 1))
def tt_fi (x : X_fi) : TT Tryz.prog RR_fi :=
 (.need (Nat.blt 0 x.n) <|
 (.need ((true && (Nat.beq x.n x.n)) && (room ((0 : Nat) + x.n) 128)) <|
 (.side (∀ i1 : Nat, ((i1 < x.n) → ((true && (true && (true && (true && (true && ((true && (true && (true && (true && (true && (true && (true && (true && true)))))))) && (true && true))))))) = true))) <|
 (.ret ((Sl.mk (cond (Nat.beq x.n 0) false false) ((0 : Nat) + x.n) (fun i1 => (TTh.mk (cond (Nat.blt i1 0) (0 : Int) (x.get ((0 : Nat) + (i1 - 0))).At) (cond (Nat.blt i1 0) (0 : Int) (x.get ((0 : Nat) + (i1 - 0))).Phase) (cond (Nat.blt i1 0) (0 : Int) (x.get ((0 : Nat) + (i1 - 0))).Ring) (cond (Nat.blt i1 0) (0 : Int) (x.get ((0 : Nat) + (i1 - 0))).Status) (cond (Nat.blt i1 0) (0 : Int) (x.get ((0 : Nat) + (i1 - 0))).AG) (fun i2 => (cond (Nat.blt i1 0) (0 : Int) ((x.get ((0 : Nat) + (i1 - 0))).Ae i2))) (Sl.mk (cond (Nat.blt i1 0) true (x.get ((0 : Nat) + (i1 - 0))).Seen.nil) (cond (Nat.blt i1 0) (0 : Nat) (x.get ((0 : Nat) + (i1 - 0))).Seen.n) (fun i2 => (cond (Nat.blt i1 0) (0 : Int) ((x.get ((0 : Nat) + (i1 - 0))).Seen.get i2))))))), x)))))
theorem sd_fi (x : X_fi) : (tt_fi x).AJ :=
 (TT.sN (TT.sN (TT.sS (fun _ _ => rfl) TT.sR)))
theorem roT_fi (x : X_fi) : TT.Ro p_fi (w_fi x) (tt_fi x) :=
 (TT.rN (TT.rN (TT.rS (TT.rR rfl))))
def D_fi : AU X_fi R_fi := .ro (.of tt_fi) (fun y => (y.1)) (fun y x => (y, x)) fun x y h => congrArg (fun o => (y.1, o)) (roT_fi x y h)
def con_fi : BC Tryz.prog :=
 DT 46 J_fi S_fi (.of tt_fi) D_fi (fun y x => (y, x)) (fun y => eosl_TTh y) 1 1 [.any] (lk mxk lbn sd_fi) (fun x => ⟨(fun _ _ => (nu_e_TTh) _ : ∀ y, ((Md 14 e_TTh) y).Ch) (x), trivial⟩)
abbrev X_f2b : Type := (Sl Int)
abbrev R_f2b : Type := (Sl Int)
def J_f2b : BH Tryz.prog :=
 BN Tryz.prog Tryz.f47 8 [(6, 1)] [] [] [.Eg 2] [BJ] [] [] R_f2b [] fun y => [BB y]
def S_f2b : AO :=
 Ah Tryz.f47 1 0 X_f2b (fun x => [BB x]) fun l => (BV (at_ l 0))
def tt_f2b (x : X_f2b) : TT Tryz.prog R_f2b :=
 (.ite x.nil
 (.ret (Sl.mk true 0 (fun _i1 => (0 : Int))))
 (.need (true && (room ((0 : Nat) + x.n) 8)) <|
 (.ret (Sl.mk (cond (Nat.beq x.n 0) false false) ((0 : Nat) + x.n) (fun i1 => (cond (Nat.blt i1 0) (0 : Int) (x.get (i1 - 0))))))))
theorem sd_f2b (x : X_f2b) : (tt_f2b x).AJ :=
 (TT.sI TT.sR (TT.sN TT.sR))
def D_f2b : AU X_f2b R_f2b := .of tt_f2b
def con_f2b : BC Tryz.prog :=
 Br 47 J_f2b S_f2b D_f2b 1 0 [BJ] (lk mxk lbn sd_f2b)
abbrev DslA_TRs : Type := (Sl TRs)
def eslA_TRs : DslA_TRs → V := (L4 (some 93) 4 e_TRs)
def dslA_TRs : V → DslA_TRs := (Lk d_TRs)
def hslA_TRs : Sh := (.sl (some 93) 4 (e_TRs (d_TRs .undef)))
def e_TSt_o0_1 (x : TSt) : V :=
 V.cons (eosl_TTh x.AB) (V.cons (eslA_TRs x.AF) (V.cons ((V.int .u64) x.FQ) (V.cons ((V.int .u64) x.Reads) (V.cons (V.bool x.Ba) (V.unit)))))
theorem nu_e_TSt_o0_1 (x : TSt) : (e_TSt_o0_1 x).Ch := ⟨(fun _ _ => (nu_e_TTh) _ : ∀ y, (eosl_TTh y).Ch) x.AB, trivial, trivial, trivial, trivial, trivial⟩
def sh_TSt_o0_1 : Sh := (.cons hosl_TTh (.cons hslA_TRs .any))
def e_TSt_1 (x : TSt) : V :=
 V.cons (esl_TTh x.AB) (V.cons (eslA_TRs x.AF) (V.cons ((V.int .u64) x.FQ) (V.cons ((V.int .u64) x.Reads) (V.cons (V.bool x.Ba) (V.unit)))))
theorem nu_e_TSt_1 (x : TSt) : (e_TSt_1 x).Ch := ⟨trivial, trivial, trivial, trivial, trivial, trivial⟩
def sh_TSt_1 : Sh := (.cons hsl_TTh (.cons hslA_TRs .any))
abbrev X_f1 : Type := TFa
abbrev R_f1 : Type := TSt
abbrev RR_f1 : Type := TSt × TFa
abbrev p_f1 (y : RR_f1) : TFa := y.2
abbrev w_f1 (x : X_f1) : TFa := x
def J_f1 : BH Tryz.prog :=
 BN Tryz.prog Tryz.f17 64 [(56, 1)] [(4, [.back (.loc 12 0)]), (5, [.back (.loc 37 0), .back (.loc 34 0), .back (.loc 28 0), .back (.loc 12 0)]), (6, [.back (.loc 37 0), .back (.loc 34 0), .back (.loc 28 0), .back (.loc 12 0)]), (7, [.back (.loc 37 0), .back (.loc 34 0), .back (.loc 28 0), .back (.loc 12 0)]), (8, [.back (.loc 37 0), .back (.loc 34 0), .back (.loc 28 0), .back (.loc 12 0)]), (9, [.back (.loc 37 0), .back (.loc 34 0), .back (.loc 28 0), .back (.loc 12 0), .UW (.loc 2 0) [.B8 0 0]]), (10, [.back (.loc 54 0), .back (.loc 37 0), .back (.loc 34 0), .back (.loc 28 0), .back (.loc 12 0)]), (11, [.back (.loc 54 0), .back (.loc 37 0), .back (.loc 34 0), .back (.loc 28 0), .back (.loc 12 0)]), (12, [.back (.loc 37 0), .back (.loc 34 0), .back (.loc 28 0), .back (.loc 12 0)]), (13, [.back (.loc 54 0), .back (.loc 37 0), .back (.loc 34 0), .back (.loc 28 0), .back (.loc 12 0)]), (14, [.back (.loc 54 0), .back (.loc 49 0), .back (.loc 37 0), .back (.loc 34 0), .back (.loc 28 0), .back (.loc 12 0)])] [(3, [.IC (.par 0) [.B8 1 2] 12]), (7, [.IC (.loc 2 0) [.B8 0 0] 34, .IC (.loc 2 0) [.B8 0 0] 37])] [.back (.loc 54 0), .back (.loc 49 0), .back (.loc 37 0), .back (.loc 34 0), .back (.loc 28 0), .back (.loc 12 0)] [sh_TSt] [sh_TFa] [con_f1k, con_fi, con_f2b] RR_f1 [(0, [⟨.loc 12 0, .par 0, [.B8 1 2], none, none⟩, ⟨.loc 34 0, .loc 2 0, [.B8 0 0], none, none⟩, ⟨.loc 37 0, .loc 2 0, [.B8 0 0], none, none⟩]), (5, [⟨.loc 12 0, .par 0, [.B8 1 2], none, none⟩, ⟨.loc 34 0, .loc 2 0, [.B8 0 0], none, none⟩, ⟨.loc 37 0, .loc 2 0, [.B8 0 0], none, none⟩]), (9, [⟨.loc 12 0, .par 0, [.B8 1 2], none, none⟩, ⟨.loc 34 0, .loc 2 0, [.B8 0 0], none, none⟩, ⟨.loc 37 0, .loc 2 0, [.B8 0 0], none, none⟩]), (10, [⟨.loc 49 0, .par 0, [.B8 2 3], none, none⟩, ⟨.loc 12 0, .par 0, [.B8 1 2], none, none⟩, ⟨.loc 34 0, .loc 2 0, [.B8 0 0], none, none⟩, ⟨.loc 37 0, .loc 2 0, [.B8 0 0], none, none⟩])] fun y => [e_TSt y.1, e_TFa y.2]
def S_f1 : AO :=
 Ah Tryz.f17 1 1 X_f1 (fun x => [(V.ptr (.par 0) []), e_TFa x]) fun l => (d_TFa (at_ l 1))
structure X_f1_5 where
 NB : Int
 Ek : Int
 Ag : TFa
 Bp : TSt
def S_f1_5 : AO :=
 Ad Tryz.f17 5 (an [0, 2, 29, 30]) [sh_TFa] [(.loc 2 0, sh_TSt_o0_1)] X_f1_5 (fun x => [(V.ptr (.par 0) []), (V.ptr (.loc 2 0) []), (V.int .i64) x.NB, (V.int .i64) x.Ek, e_TFa x.Ag, e_TSt_o0_1 x.Bp]) fun l => ⟨dI (at_ l 2), dI (at_ l 3), d_TFa (at_ l 4), d_TSt (at_ l 5)⟩
structure X_f1_9 where
 Ag : TFa
 Bp : TSt
def S_f1_9 : AO :=
 Ad Tryz.f17 9 (an [0, 2]) [sh_TFa] [(.loc 2 0, sh_TSt_1)] X_f1_9 (fun x => [(V.ptr (.par 0) []), (V.ptr (.loc 2 0) []), e_TFa x.Ag, e_TSt_1 x.Bp]) fun l => ⟨d_TFa (at_ l 2), d_TSt (at_ l 3)⟩
structure X_f1_10 where
 Ti : Int
 DG : Int
 Ag : TFa
 Bp : TSt
def S_f1_10 : AO :=
 Ad Tryz.f17 10 (an [2, 49, 50, 51]) [sh_TFa] [(.loc 2 0, sh_TSt_1), (.loc 49 0, .any)] X_f1_10 (fun x => [(V.ptr (.loc 2 0) []), (V.own (.loc 49 0) [] 1 x.Ag.rings.n 0 x.Ag.rings.n), (V.int .i64) x.Ti, (V.int .i64) x.DG, V.cons (e_TPg x.Ag.p) (V.cons (eosl_TTh x.Ag.threads) (V.cons (V.B0 (.loc 49 0) 88 1 x.Ag.rings.nil x.Ag.rings.n) (V.cons ((V.int .u64) x.Ag.now) (V.cons ((V.int .u64) x.Ag.reads) (V.cons (V.bool x.Ag.ended) (V.unit)))))), e_TSt_1 x.Bp, (V.arr 1 x.Ag.rings.n fun i => ebox_TRr (x.Ag.rings.get i))]) fun l => ⟨dI (at_ l 2), dI (at_ l 3), { d_TFa (at_ l 4) with rings := ⟨(Rq (fd (at_ l 4) 2)).nil, (Rq (fd (at_ l 4) 2)).n, (Rb dbox_TRr (at_ l 6)).get⟩ }, d_TSt (at_ l 5)⟩
abbrev w_f1_5 (x : X_f1_5) : TFa := (x.Ag)
abbrev w_f1_9 (x : X_f1_9) : TFa := (x.Ag)
abbrev w_f1_10 (x : X_f1_10) : TFa := (x.Ag)
def tt_f1_10 (D_f1_10 : AU X_f1_10 RR_f1) (x : X_f1_10) : TT Tryz.prog RR_f1 :=
 (.ite (Bg x.DG x.Ti)
 (.need (A3 x.DG x.Ag.rings.n) <|
 (.need (((Nat.beq x.Ag.rings.n x.Ag.rings.n) && true) && (!(x.Ag.rings.get ((0 : Nat) + (Int.toNat x.DG))).nil)) <|
 (.call con_f1k (x.Ag.rings.get ((0 : Nat) + (Int.toNat x.DG))).x fun (y2 : R_f1k) =>
 (.need (true && (room (x.Bp.AF.n + 1) 64)) <|
 (.need ((true && true) && (((Nat.beq x.Ag.rings.n x.Ag.rings.n) && (Nat.blt ((0 : Nat) + (Int.toNat x.DG)) x.Ag.rings.n)) && (!(x.Ag.rings.get ((0 : Nat) + (Int.toNat x.DG))).nil))) <|
 (.side (((fun v : Nat → V => v = v) (fun i3 => (cond (Nat.beq i3 ((0 : Nat) + (Int.toNat x.DG))) (V.ptr (Id.loc 54 0) List.nil) (V.Aj (x.Ag.rings.get i3).nil (V.cons (V.cons (V.int IntKind.u64 (x.Ag.rings.get i3).x.AA.tail) (V.cons (V.A7 36 1 (x.Ag.rings.get i3).x.AA.AD.nil (x.Ag.rings.get i3).x.AA.AD.n (fun i4 => (V.int IntKind.u64 ((x.Ag.rings.get i3).x.AA.AD.get i4)))) V.unit)) (V.cons (V.Aj (x.Ag.rings.get i3).x.s.nil (V.cons (V.A7 175 3 (x.Ag.rings.get i3).x.s.x.l.nil (x.Ag.rings.get i3).x.s.x.l.n (fun i4 => (V.cons (V.int IntKind.u64 ((x.Ag.rings.get i3).x.s.x.l.get i4).AP) (V.cons (V.int IntKind.u64 ((x.Ag.rings.get i3).x.s.x.l.get i4).Value) (V.cons (V.int IntKind.i64 ((x.Ag.rings.get i3).x.s.x.l.get i4).Left) V.unit))))) (V.cons (V.int IntKind.i64 (x.Ag.rings.get i3).x.s.x.AX) V.unit))) (V.cons (V.int IntKind.u64 (x.Ag.rings.get i3).x.most) (V.cons (V.bool (x.Ag.rings.get i3).x.closed) V.unit)))))))) ∧ (((fun v : V => v = v) (V.cons (V.cons (V.int IntKind.u64 (x.Ag.rings.get ((0 : Nat) + (Int.toNat x.DG))).x.AA.tail) (V.cons (V.A7 36 1 (x.Ag.rings.get ((0 : Nat) + (Int.toNat x.DG))).x.AA.AD.nil (x.Ag.rings.get ((0 : Nat) + (Int.toNat x.DG))).x.AA.AD.n (fun i3 => (V.int IntKind.u64 ((x.Ag.rings.get ((0 : Nat) + (Int.toNat x.DG))).x.AA.AD.get i3)))) V.unit)) (V.cons (V.Aj (x.Ag.rings.get ((0 : Nat) + (Int.toNat x.DG))).x.s.nil (V.cons (V.A7 175 3 (x.Ag.rings.get ((0 : Nat) + (Int.toNat x.DG))).x.s.x.l.nil (x.Ag.rings.get ((0 : Nat) + (Int.toNat x.DG))).x.s.x.l.n (fun i3 => (V.cons (V.int IntKind.u64 ((x.Ag.rings.get ((0 : Nat) + (Int.toNat x.DG))).x.s.x.l.get i3).AP) (V.cons (V.int IntKind.u64 ((x.Ag.rings.get ((0 : Nat) + (Int.toNat x.DG))).x.s.x.l.get i3).Value) (V.cons (V.int IntKind.i64 ((x.Ag.rings.get ((0 : Nat) + (Int.toNat x.DG))).x.s.x.l.get i3).Left) V.unit))))) (V.cons (V.int IntKind.i64 (x.Ag.rings.get ((0 : Nat) + (Int.toNat x.DG))).x.s.x.AX) V.unit))) (V.cons (V.int IntKind.u64 (x.Ag.rings.get ((0 : Nat) + (Int.toNat x.DG))).x.most) (V.cons (V.bool (x.Ag.rings.get ((0 : Nat) + (Int.toNat x.DG))).x.closed) V.unit))))) ∧ ((fun v : V => v = v) (V.Aj (x.Ag.rings.get ((0 : Nat) + (Int.toNat x.DG))).nil (V.cons (V.cons (V.int IntKind.u64 (x.Ag.rings.get ((0 : Nat) + (Int.toNat x.DG))).x.AA.tail) (V.cons (V.A7 36 1 (x.Ag.rings.get ((0 : Nat) + (Int.toNat x.DG))).x.AA.AD.nil (x.Ag.rings.get ((0 : Nat) + (Int.toNat x.DG))).x.AA.AD.n (fun i3 => (V.int IntKind.u64 ((x.Ag.rings.get ((0 : Nat) + (Int.toNat x.DG))).x.AA.AD.get i3)))) V.unit)) (V.cons (V.Aj (x.Ag.rings.get ((0 : Nat) + (Int.toNat x.DG))).x.s.nil (V.cons (V.A7 175 3 (x.Ag.rings.get ((0 : Nat) + (Int.toNat x.DG))).x.s.x.l.nil (x.Ag.rings.get ((0 : Nat) + (Int.toNat x.DG))).x.s.x.l.n (fun i3 => (V.cons (V.int IntKind.u64 ((x.Ag.rings.get ((0 : Nat) + (Int.toNat x.DG))).x.s.x.l.get i3).AP) (V.cons (V.int IntKind.u64 ((x.Ag.rings.get ((0 : Nat) + (Int.toNat x.DG))).x.s.x.l.get i3).Value) (V.cons (V.int IntKind.i64 ((x.Ag.rings.get ((0 : Nat) + (Int.toNat x.DG))).x.s.x.l.get i3).Left) V.unit))))) (V.cons (V.int IntKind.i64 (x.Ag.rings.get ((0 : Nat) + (Int.toNat x.DG))).x.s.x.AX) V.unit))) (V.cons (V.int IntKind.u64 (x.Ag.rings.get ((0 : Nat) + (Int.toNat x.DG))).x.most) (V.cons (V.bool (x.Ag.rings.get ((0 : Nat) + (Int.toNat x.DG))).x.closed) V.unit)))))))) <|
 (.AM S_f1_10 D_f1_10 (X_f1_10.mk x.Ti (IntKind.i64.wrap (x.DG + 1)) x.Ag (TSt.mk x.Bp.AB (Sl.mk (cond (Nat.beq 1 0) x.Bp.AF.nil false) (x.Bp.AF.n + 1) (fun i3 => (TRs.mk (cond (Nat.blt i3 x.Bp.AF.n) (x.Bp.AF.get i3).Ax y2.Ax) (Sl.mk (cond (Nat.blt i3 x.Bp.AF.n) (x.Bp.AF.get i3).AV.nil y2.AV.nil) (cond (Nat.blt i3 x.Bp.AF.n) (x.Bp.AF.get i3).AV.n y2.AV.n) (fun i4 => (cond (Nat.blt i3 x.Bp.AF.n) ((x.Bp.AF.get i3).AV.get i4) (y2.AV.get i4)))) (cond (Nat.blt i3 x.Bp.AF.n) (x.Bp.AF.get i3).Ao y2.Ao) (Sl.mk (cond (Nat.blt i3 x.Bp.AF.n) (x.Bp.AF.get i3).Ai.nil y2.Ai.nil) (cond (Nat.blt i3 x.Bp.AF.n) (x.Bp.AF.get i3).Ai.n y2.Ai.n) (fun i4 => (TSo.mk (cond (Nat.blt i3 x.Bp.AF.n) ((x.Bp.AF.get i3).Ai.get i4).AP (y2.Ai.get i4).AP) (cond (Nat.blt i3 x.Bp.AF.n) ((x.Bp.AF.get i3).Ai.get i4).Value (y2.Ai.get i4).Value) (cond (Nat.blt i3 x.Bp.AF.n) ((x.Bp.AF.get i3).Ai.get i4).Left (y2.Ai.get i4).Left))))))) x.Bp.FQ x.Bp.Reads x.Bp.Ba)))))))))
 (.need ((true && true) && (Nat.beq x.Ag.rings.n x.Ag.rings.n)) <|
 (.ret (x.Bp, x.Ag))))
theorem sd_f1_10 (D_f1_10 : AU X_f1_10 RR_f1) (x : X_f1_10) : (tt_f1_10 D_f1_10 x).AJ :=
 (TT.sI (TT.sN (TT.sN (TT.sC fun _ => (TT.sN (TT.sN (TT.sS ⟨rfl, ⟨rfl, rfl⟩⟩ TT.sJ)))))) (TT.sN TT.sR))
theorem roT_f1_10 (D_f1_10 : AU X_f1_10 RR_f1) (r10 : ∀ x y, D_f1_10.rel x y → p_f1 y = w_f1_10 x) (x : X_f1_10) : TT.Ro p_f1 (w_f1_10 x) (tt_f1_10 D_f1_10 x) :=
 (TT.rI (TT.rN (TT.rN (TT.rC fun _ => (TT.rN (TT.rN (TT.rS (TT.rJ (r10 _)))))))) (TT.rN (TT.rR rfl)))
def D_f1_10 : AU X_f1_10 RR_f1 := AU.loop tt_f1_10
theorem ok_f1_10 : AY J_f1 S_f1_10 D_f1_10 :=
 A5 fun D_f1_10 h_10 => lk mxk (lbc h_10 rfl lbn) (sd_f1_10 D_f1_10)
theorem ro_f1_10 : ∀ x y, D_f1_10.rel x y → p_f1 y = w_f1_10 x :=
 KL fun D_f1_10 r10 => roT_f1_10 D_f1_10 r10
def tt_f1_9 (x : X_f1_9) : TT Tryz.prog RR_f1 :=
 (.AM S_f1_10 D_f1_10 (X_f1_10.mk ((x.Ag.rings.n : Nat) : Int) 0 x.Ag x.Bp))
theorem sd_f1_9 (x : X_f1_9) : (tt_f1_9 x).AJ :=
 TT.sJ
theorem roT_f1_9 (x : X_f1_9) : TT.Ro p_f1 (w_f1_9 x) (tt_f1_9 x) :=
 (TT.rJ (ro_f1_10 _))
def D_f1_9 : AU X_f1_9 RR_f1 := .of tt_f1_9
theorem ok_f1_9 : AY J_f1 S_f1_9 D_f1_9 :=
 lk mxk (lbc ok_f1_10 rfl lbn) sd_f1_9
theorem ro_f1_9 : ∀ x y, D_f1_9.rel x y → p_f1 y = w_f1_9 x :=
 roT_f1_9 
def tt_f1_5 (D_f1_5 : AU X_f1_5 RR_f1) (x : X_f1_5) : TT Tryz.prog RR_f1 :=
 (.ite (Bg x.Ek x.NB)
 (.need (A3 x.Ek x.Bp.AB.n) <|
 (.need ((Nat.beq x.Bp.AB.n x.Bp.AB.n) && true) <|
 (.call con_f2b (x.Bp.AB.get ((0 : Nat) + (Int.toNat x.Ek))).Seen fun (y2 : R_f2b) =>
 (.need (A3 x.Ek x.Bp.AB.n) <|
 (.need ((Nat.beq x.Bp.AB.n x.Bp.AB.n) && true) <|
 (.need ((true && true) && (Nat.beq x.Bp.AB.n x.Bp.AB.n)) <|
 (.AM S_f1_5 D_f1_5 (X_f1_5.mk x.NB (IntKind.i64.wrap (x.Ek + 1)) x.Ag (TSt.mk (Sl.mk x.Bp.AB.nil x.Bp.AB.n (fun i3 => (TTh.mk (cond (Nat.beq i3 ((0 : Nat) + (Int.toNat x.Ek))) (x.Bp.AB.get ((0 : Nat) + (Int.toNat x.Ek))).At (x.Bp.AB.get i3).At) (cond (Nat.beq i3 ((0 : Nat) + (Int.toNat x.Ek))) (x.Bp.AB.get ((0 : Nat) + (Int.toNat x.Ek))).Phase (x.Bp.AB.get i3).Phase) (cond (Nat.beq i3 ((0 : Nat) + (Int.toNat x.Ek))) (x.Bp.AB.get ((0 : Nat) + (Int.toNat x.Ek))).Ring (x.Bp.AB.get i3).Ring) (cond (Nat.beq i3 ((0 : Nat) + (Int.toNat x.Ek))) (x.Bp.AB.get ((0 : Nat) + (Int.toNat x.Ek))).Status (x.Bp.AB.get i3).Status) (cond (Nat.beq i3 ((0 : Nat) + (Int.toNat x.Ek))) (x.Bp.AB.get ((0 : Nat) + (Int.toNat x.Ek))).AG (x.Bp.AB.get i3).AG) (fun i4 => (cond (Nat.beq i3 ((0 : Nat) + (Int.toNat x.Ek))) ((x.Bp.AB.get ((0 : Nat) + (Int.toNat x.Ek))).Ae i4) ((x.Bp.AB.get i3).Ae i4))) (Sl.mk (cond (Nat.beq i3 ((0 : Nat) + (Int.toNat x.Ek))) y2.nil (x.Bp.AB.get i3).Seen.nil) (cond (Nat.beq i3 ((0 : Nat) + (Int.toNat x.Ek))) y2.n (x.Bp.AB.get i3).Seen.n) (fun i4 => (cond (Nat.beq i3 ((0 : Nat) + (Int.toNat x.Ek))) (y2.get i4) ((x.Bp.AB.get i3).Seen.get i4))))))) x.Bp.AF x.Bp.FQ x.Bp.Reads x.Bp.Ba)))))))))
 (.side (∀ i2 : Nat, ((i2 < x.Bp.AB.n) → ((true && (true && (true && (true && (true && ((true && (true && (true && (true && (true && (true && (true && (true && true)))))))) && (true && true))))))) = true))) <|
 (.AM S_f1_9 D_f1_9 (X_f1_9.mk x.Ag x.Bp))))
theorem sd_f1_5 (D_f1_5 : AU X_f1_5 RR_f1) (x : X_f1_5) : (tt_f1_5 D_f1_5 x).AJ :=
 (TT.sI (TT.sN (TT.sN (TT.sC fun _ => (TT.sN (TT.sN (TT.sN TT.sJ)))))) (TT.sS (fun _ _ => rfl) TT.sJ))
theorem roT_f1_5 (D_f1_5 : AU X_f1_5 RR_f1) (r5 : ∀ x y, D_f1_5.rel x y → p_f1 y = w_f1_5 x) (x : X_f1_5) : TT.Ro p_f1 (w_f1_5 x) (tt_f1_5 D_f1_5 x) :=
 (TT.rI (TT.rN (TT.rN (TT.rC fun _ => (TT.rN (TT.rN (TT.rN (TT.rJ (r5 _)))))))) (TT.rS (TT.rJ (ro_f1_9 _))))
def D_f1_5 : AU X_f1_5 RR_f1 := AU.loop tt_f1_5
theorem ok_f1_5 : AY J_f1 S_f1_5 D_f1_5 :=
 A5 fun D_f1_5 h_5 => lk mxk (lbc h_5 rfl (lbc ok_f1_10 rfl (lbc ok_f1_9 rfl lbn))) (sd_f1_5 D_f1_5)
theorem ro_f1_5 : ∀ x y, D_f1_5.rel x y → p_f1 y = w_f1_5 x :=
 KL fun D_f1_5 r5 => roT_f1_5 D_f1_5 r5
def tt_f1 (x : X_f1) : TT Tryz.prog RR_f1 :=
 (.call con_fi (Ar.mk x.threads.n x.threads.get) fun (y1 : R_fi) =>
 (.need ((true && true) && (Nat.beq x.threads.n x.threads.n)) <|
 (.need ((true && true) && (Nat.beq y1.n y1.n)) <|
 (.AM S_f1_5 D_f1_5 (X_f1_5.mk ((y1.n : Nat) : Int) 0 x (TSt.mk y1 (Sl.mk true 0 (fun _i2 => (TRs.mk 0 (Sl.mk true 0 (fun _i3 => (0 : Int))) false (Sl.mk true 0 (fun _i3 => (TSo.mk 0 0 0)))))) x.now x.reads x.ended))))))
theorem sd_f1 (x : X_f1) : (tt_f1 x).AJ :=
 (TT.sC fun _ => (TT.sN (TT.sN TT.sJ)))
theorem roT_f1 (x : X_f1) : TT.Ro p_f1 (w_f1 x) (tt_f1 x) :=
 (TT.rC fun _ => (TT.rN (TT.rN (TT.rJ (ro_f1_5 _)))))
def D_f1 : AU X_f1 R_f1 := .ro (.of tt_f1) (fun y => (y.1)) (fun y x => (y, x)) fun x y h => congrArg (fun o => (y.1, o)) (roT_f1 x y h)
def con_f1 : BC Tryz.prog :=
 DT 17 J_f1 S_f1 (.of tt_f1) D_f1 (fun y x => (y, x)) (fun y => e_TSt y) 1 1 [.any] (lk mxk (lbc ok_f1_10 rfl (lbc ok_f1_9 rfl (lbc ok_f1_5 rfl lbn))) sd_f1) (fun x => ⟨(nu_e_TFa : ∀ y, (e_TFa y).Ch) (x), trivial⟩)
abbrev X_f1f : Type := (Sl Int) × TEv × TFa
abbrev R_f1f : Type := TEv
abbrev RR_f1f : Type := TEv × TFa
abbrev p_f1f (y : RR_f1f) : TFa := y.2
abbrev w_f1f (x : X_f1f) : TFa := x.2.2
def J_f1f : BH Tryz.prog :=
 BN Tryz.prog Tryz.f82 30 [(22, 1)] [] [] [] [.any] [sh_TFa] [con_f1] RR_f1f [] fun y => [e_TEv y.1, e_TFa y.2]
def S_f1f : AO :=
 Ah Tryz.f82 3 1 X_f1f (fun x => [(V.ptr (.par 0) []), BB x.1, e_TEv x.2.1, e_TFa x.2.2]) fun l => (BV (at_ l 1), d_TEv (at_ l 2), d_TFa (at_ l 3))
structure X_f1f_5 where
 Bi : (Sl Int)
 Ag : TFa
 BD : TEv
 Fs : TEv
 Lj : TSt
def S_f1f_5 : AO :=
 Ad Tryz.f82 5 [(1, BJ), (5, .any), (6, .any), (7, .any)] [sh_TFa] [(.loc 5 0, .any), (.loc 6 0, .any), (.loc 7 0, sh_TSt)] X_f1f_5 (fun x => [BB x.Bi, (V.ptr (.loc 5 0) []), (V.ptr (.loc 6 0) []), (V.ptr (.loc 7 0) []), e_TFa x.Ag, e_TEv x.BD, e_TEv x.Fs, e_TSt x.Lj]) fun l => ⟨BV (at_ l 0), d_TFa (at_ l 4), d_TEv (at_ l 5), d_TEv (at_ l 6), d_TSt (at_ l 7)⟩
abbrev w_f1f_5 (x : X_f1f_5) : TFa := (x.Ag)
def tt_f1f_5 (x : X_f1f_5) : TT Tryz.prog RR_f1f :=
 (.need (A3 x.Lj.Reads x.Bi.n) <|
 (.ret ((TEv.mk x.BD.Thread 10 x.BD.Ring x.BD.AG (x.Bi.get (Int.toNat x.Lj.Reads))), x.Ag)))
theorem sd_f1f_5 (x : X_f1f_5) : (tt_f1f_5 x).AJ :=
 (TT.sN TT.sR)
theorem roT_f1f_5 (x : X_f1f_5) : TT.Ro p_f1f (w_f1f_5 x) (tt_f1f_5 x) :=
 (TT.rN (TT.rR rfl))
def D_f1f_5 : AU X_f1f_5 RR_f1f := .of tt_f1f_5
theorem ok_f1f_5 : AY J_f1f S_f1f_5 D_f1f_5 :=
 lk mxk lbn sd_f1f_5
theorem ro_f1f_5 : ∀ x y, D_f1f_5.rel x y → p_f1f y = w_f1f_5 x :=
 roT_f1f_5 
def tt_f1f (x : X_f1f) : TT Tryz.prog RR_f1f :=
 (.call con_f1 x.snd.snd fun (y1 : R_f1) =>
 (.ite y1.Ba
 (.ret ((TEv.mk x.snd.fst.Thread 11 x.snd.fst.Ring x.snd.fst.AG x.snd.fst.Value), x.snd.snd))
 (.ite (Bm (IntKind.u64.wrap ((x.fst.n : Nat) : Int)) y1.Reads)
 (.ret ((TEv.mk x.snd.fst.Thread 11 x.snd.fst.Ring x.snd.fst.AG x.snd.fst.Value), x.snd.snd))
 (.AM S_f1f_5 D_f1f_5 (X_f1f_5.mk x.fst x.snd.snd x.snd.fst (TEv.mk 0 0 0 0 0) y1)))))
theorem sd_f1f (x : X_f1f) : (tt_f1f x).AJ :=
 (TT.sC fun _ => (TT.sI TT.sR (TT.sI TT.sR TT.sJ)))
theorem roT_f1f (x : X_f1f) : TT.Ro p_f1f (w_f1f x) (tt_f1f x) :=
 (TT.rC fun _ => (TT.rI (TT.rR rfl) (TT.rI (TT.rR rfl) (TT.rJ (ro_f1f_5 _)))))
def D_f1f : AU X_f1f R_f1f := .ro (.of tt_f1f) (fun y => (y.1)) (fun y x => (y, x.2.2)) fun x y h => congrArg (fun o => (y.1, o)) (roT_f1f x y h)
def con_f1f : BC Tryz.prog :=
 DT 82 J_f1f S_f1f (.of tt_f1f) D_f1f (fun y x => (y, x.2.2)) (fun y => e_TEv y) 3 1 [.any, BJ, .any] (lk mxk (lbc ok_f1f_5 rfl lbn) sd_f1f) (fun x => ⟨(nu_e_TFa : ∀ y, (e_TFa y).Ch) (x.2.2), trivial⟩)
abbrev Qj : Type := (Sl ByteArray)
def QW : Qj → V := (L4 none 1 V.str)
def UH : V → Qj := (Lk dS)
def QP : Sh := (.sl none 1 (V.str (dS .undef)))
abbrev X_f3u : Type := Unit
abbrev R_f3u : Type := (Sl ByteArray)
def J_f3u : BH Tryz.prog :=
 BN Tryz.prog Tryz.f184 2 [] [] [] [.Eg 0] [QP] [] [] R_f3u [] fun y => [QW y]
def S_f3u : AO :=
 Ah Tryz.f184 0 0 X_f3u (fun _x => []) fun _l => ()
def tt_f3u (_x : X_f3u) : TT Tryz.prog R_f3u :=
 (.ret (Sl.mk false 15 (fun i1 => (cond (Nat.beq i1 0) (ByteArray.mk #[99, 108, 97, 105, 109]) (cond (Nat.beq i1 1) (ByteArray.mk #[112, 117, 98, 108, 105, 115, 104]) (cond (Nat.beq i1 2) (ByteArray.mk #[116, 97, 107, 101]) (cond (Nat.beq i1 3) (ByteArray.mk #[114, 101, 108, 101, 97, 115, 101]) (cond (Nat.beq i1 4) (ByteArray.mk #[110, 111]) (cond (Nat.beq i1 5) (ByteArray.mk #[115, 104, 117, 116]) (cond (Nat.beq i1 6) (ByteArray.mk #[116, 105, 109, 101]) (cond (Nat.beq i1 7) (ByteArray.mk #[99, 108, 111, 99, 107]) (cond (Nat.beq i1 8) (ByteArray.mk #[100, 114, 97, 119]) (cond (Nat.beq i1 9) (ByteArray.mk #[114, 101, 97, 100]) (cond (Nat.beq i1 10) (ByteArray.mk #[101, 110, 100]) (cond (Nat.beq i1 11) (ByteArray.mk #[115, 101, 101]) (cond (Nat.beq i1 12) (ByteArray.mk #[99, 108, 111, 115, 101]) (cond (Nat.beq i1 13) (ByteArray.mk #[104, 97, 108, 116]) (ByteArray.mk #[115, 112, 105, 110]))))))))))))))))))
theorem sd_f3u (x : X_f3u) : (tt_f3u x).AJ :=
 TT.sR
def D_f3u : AU X_f3u R_f3u := .of tt_f3u
def con_f3u : BC Tryz.prog :=
 Br 184 J_f3u S_f3u D_f3u 0 0 [] (lk mxk lbn sd_f3u)
abbrev X_f29 : Type := Int
abbrev R_f29 : Type := ByteArray
def J_f29 : BH Tryz.prog :=
 BN Tryz.prog Tryz.f159 14 [] [] [] [] [.any] [] [con_f3u] R_f29 [] fun y => [V.str y]
def S_f29 : AO :=
 Ah Tryz.f159 1 0 X_f29 (fun x => [(V.int .i64) x]) fun l => (dI (at_ l 0))
structure X_f29_3 where
 H5 : Int
def S_f29_3 : AO :=
 Ad Tryz.f159 3 [(0, .any)] [] [] X_f29_3 (fun x => [(V.int .i64) x.H5]) fun l => ⟨dI (at_ l 0)⟩
def tt_f29_3 (x : X_f29_3) : TT Tryz.prog R_f29 :=
 (.call con_f3u PUnit.unit fun (y1 : R_f3u) =>
 (.need (A3 (IntKind.i64.wrap (x.H5 - 1)) y1.n) <|
 (.ret (y1.get (Int.toNat (IntKind.i64.wrap (x.H5 - 1)))))))
theorem sd_f29_3 (x : X_f29_3) : (tt_f29_3 x).AJ :=
 (TT.sC fun _ => (TT.sN TT.sR))
def D_f29_3 : AU X_f29_3 R_f29 := .of tt_f29_3
theorem ok_f29_3 : AY J_f29 S_f29_3 D_f29_3 :=
 lk mxk lbn sd_f29_3
def tt_f29 (x : X_f29) : TT Tryz.prog R_f29 :=
 (.ite (Bg x 1)
 (.ret (ByteArray.mk #[]))
 (.ite (Bg 15 x)
 (.ret (ByteArray.mk #[]))
 (.AM S_f29_3 D_f29_3 (X_f29_3.mk x))))
theorem sd_f29 (x : X_f29) : (tt_f29 x).AJ :=
 (TT.sI TT.sR (TT.sI TT.sR TT.sJ))
def D_f29 : AU X_f29 R_f29 := .of tt_f29
def con_f29 : BC Tryz.prog :=
 Br 159 J_f29 S_f29 D_f29 1 0 [.any] (lk mxk (lbc ok_f29_3 rfl lbn) sd_f29)
abbrev X_f2t : Type := Int
abbrev R_f2t : Type := Bool
def J_f2t : BH Tryz.prog :=
 BN Tryz.prog Tryz.f186 13 [] [] [] [] [.any] [] [] R_f2t [] fun y => [V.bool y]
def S_f2t : AO :=
 Ah Tryz.f186 1 0 X_f2t (fun x => [(V.int .i64) x]) fun l => (dI (at_ l 0))
def tt_f2t (x : X_f2t) : TT Tryz.prog R_f2t :=
 (.ite (Bm 1 x)
 (.ite (Bm x 4)
 (.ret true)
 (.ret (AW x 13)))
 (.ret (AW x 13)))
theorem sd_f2t (x : X_f2t) : (tt_f2t x).AJ :=
 (TT.sI (TT.sI TT.sR TT.sR) TT.sR)
def D_f2t : AU X_f2t R_f2t := .of tt_f2t
def con_f2t : BC Tryz.prog :=
 Br 186 J_f2t S_f2t D_f2t 1 0 [.any] (lk mxk lbn sd_f2t)
abbrev X_f37 : Type := Int
abbrev R_f37 : Type := Bool
def J_f37 : BH Tryz.prog :=
 BN Tryz.prog Tryz.f185 13 [] [] [] [] [.any] [] [con_f2t] R_f37 [] fun y => [V.bool y]
def S_f37 : AO :=
 Ah Tryz.f185 1 0 X_f37 (fun x => [(V.int .i64) x]) fun l => (dI (at_ l 0))
def tt_f37 (x : X_f37) : TT Tryz.prog R_f37 :=
 (.call con_f2t x fun (y1 : R_f2t) =>
 (.ite y1
 (.ret true)
 (.ite (Bm 5 x)
 (.ret (Bm x 7))
 (.ret false))))
theorem sd_f37 (x : X_f37) : (tt_f37 x).AJ :=
 (TT.sC fun _ => (TT.sI TT.sR (TT.sI TT.sR TT.sR)))
def D_f37 : AU X_f37 R_f37 := .of tt_f37
def con_f37 : BC Tryz.prog :=
 Br 185 J_f37 S_f37 D_f37 1 0 [.any] (lk mxk lbn sd_f37)
abbrev X_f3e : Type := Int
abbrev R_f3e : Type := Bool
def J_f3e : BH Tryz.prog :=
 BN Tryz.prog Tryz.f187 13 [] [] [] [] [.any] [] [] R_f3e [] fun y => [V.bool y]
def S_f3e : AO :=
 Ah Tryz.f187 1 0 X_f3e (fun x => [(V.int .i64) x]) fun l => (dI (at_ l 0))
def tt_f3e (x : X_f3e) : TT Tryz.prog R_f3e :=
 (.ite (Bm 8 x)
 (.ite (Bm x 10)
 (.ret true)
 (.ret (AW x 12)))
 (.ret (AW x 12)))
theorem sd_f3e (x : X_f3e) : (tt_f3e x).AJ :=
 (TT.sI (TT.sI TT.sR TT.sR) TT.sR)
def D_f3e : AU X_f3e R_f3e := .of tt_f3e
def con_f3e : BC Tryz.prog :=
 Br 187 J_f3e S_f3e D_f3e 1 0 [.any] (lk mxk lbn sd_f3e)
abbrev X_f11 : Type := TEv
abbrev R_f11 : Type := TEv
def J_f11 : BH Tryz.prog :=
 BN Tryz.prog Tryz.f160 19 [] [] [] [] [.any] [] [con_f37, con_f2t, con_f3e] R_f11 [] fun y => [e_TEv y]
def S_f11 : AO :=
 Ah Tryz.f160 1 0 X_f11 (fun x => [e_TEv x]) fun l => (d_TEv (at_ l 0))
structure X_f11_3 where
 Pg : TEv
 Bp : TEv
def S_f11_3 : AO :=
 Ad Tryz.f160 3 (an [1, 2]) [] [(.loc 1 0, .any), (.loc 2 0, .any)] X_f11_3 (fun x => [(V.ptr (.loc 1 0) []), (V.ptr (.loc 2 0) []), e_TEv x.Pg, e_TEv x.Bp]) fun l => ⟨d_TEv (at_ l 2), d_TEv (at_ l 3)⟩
structure X_f11_5 where
 Pg : TEv
 Bp : TEv
def S_f11_5 : AO :=
 Ad Tryz.f160 5 (an [1, 2]) [] [(.loc 1 0, .any), (.loc 2 0, .any)] X_f11_5 (fun x => [(V.ptr (.loc 1 0) []), (V.ptr (.loc 2 0) []), e_TEv x.Pg, e_TEv x.Bp]) fun l => ⟨d_TEv (at_ l 2), d_TEv (at_ l 3)⟩
def tt_f11_5 (x : X_f11_5) : TT Tryz.prog R_f11 :=
 (.call con_f3e x.Pg.Kind fun (y1 : R_f3e) =>
 (.ite (!y1)
 (.ret (TEv.mk x.Pg.Thread x.Pg.Kind x.Pg.Ring x.Pg.AG 0))
 (.ret x.Pg)))
theorem sd_f11_5 (x : X_f11_5) : (tt_f11_5 x).AJ :=
 (TT.sC fun _ => (TT.sI TT.sR TT.sR))
def D_f11_5 : AU X_f11_5 R_f11 := .of tt_f11_5
theorem ok_f11_5 : AY J_f11 S_f11_5 D_f11_5 :=
 lk mxk lbn sd_f11_5
def tt_f11_3 (x : X_f11_3) : TT Tryz.prog R_f11 :=
 (.call con_f2t x.Pg.Kind fun (y1 : R_f2t) =>
 (.ite (!y1)
 (.AM S_f11_5 D_f11_5 (X_f11_5.mk (TEv.mk x.Pg.Thread x.Pg.Kind x.Pg.Ring 0 x.Pg.Value) x.Bp))
 (.AM S_f11_5 D_f11_5 (X_f11_5.mk x.Pg x.Bp))))
theorem sd_f11_3 (x : X_f11_3) : (tt_f11_3 x).AJ :=
 (TT.sC fun _ => (TT.sI TT.sJ TT.sJ))
def D_f11_3 : AU X_f11_3 R_f11 := .of tt_f11_3
theorem ok_f11_3 : AY J_f11 S_f11_3 D_f11_3 :=
 lk mxk (lbc ok_f11_5 rfl lbn) sd_f11_3
def tt_f11 (x : X_f11) : TT Tryz.prog R_f11 :=
 (.call con_f37 x.Kind fun (y1 : R_f37) =>
 (.ite (!y1)
 (.AM S_f11_3 D_f11_3 (X_f11_3.mk (TEv.mk x.Thread x.Kind 0 x.AG x.Value) (TEv.mk 0 0 0 0 0)))
 (.AM S_f11_3 D_f11_3 (X_f11_3.mk x (TEv.mk 0 0 0 0 0)))))
theorem sd_f11 (x : X_f11) : (tt_f11 x).AJ :=
 (TT.sC fun _ => (TT.sI TT.sJ TT.sJ))
def D_f11 : AU X_f11 R_f11 := .of tt_f11
def con_f11 : BC Tryz.prog :=
 Br 160 J_f11 S_f11 D_f11 1 0 [.any] (lk mxk (lbc ok_f11_5 rfl (lbc ok_f11_3 rfl lbn)) sd_f11)
abbrev X_f38 : Type := TEv
abbrev R_f38 : Type := Bool
def J_f38 : BH Tryz.prog :=
 BN Tryz.prog Tryz.f112 38 [(1, 3)] [] [] [] [.any] [] [con_f29, con_f11] R_f38 [] fun y => [V.bool y]
def S_f38 : AO :=
 Ah Tryz.f112 1 0 X_f38 (fun x => [e_TEv x]) fun l => (d_TEv (at_ l 0))
def tt_f38 (x : X_f38) : TT Tryz.prog R_f38 :=
 (.call con_f29 x.Kind fun (y1 : R_f29) =>
 (.ite (!(seq y1 (ByteArray.mk #[])))
 (.call con_f11 x fun (y2 : R_f11) =>
 (.ite ((AW x.Thread y2.Thread) && ((AW x.Kind y2.Kind) && ((AW x.Ring y2.Ring) && ((AW x.AG y2.AG) && ((AW x.Value y2.Value) && true)))))
 (.ite (Bm 0 x.Thread)
 (.ite (Bg x.Thread 8)
 (.ite (Bm 0 x.Ring)
 (.ite (Bg x.Ring 8)
 (.ret (Bg x.AG 4611686018427387904))
 (.ret false))
 (.ret false))
 (.ret false))
 (.ret false))
 (.ret false)))
 (.ret false)))
theorem sd_f38 (x : X_f38) : (tt_f38 x).AJ :=
 (TT.sC fun _ => (TT.sI (TT.sC fun _ => (TT.sI (TT.sI (TT.sI (TT.sI (TT.sI TT.sR TT.sR) TT.sR) TT.sR) TT.sR) TT.sR)) TT.sR))
def D_f38 : AU X_f38 R_f38 := .of tt_f38
def con_f38 : BC Tryz.prog :=
 Br 112 J_f38 S_f38 D_f38 1 0 [.any] (lk mxk lbn sd_f38)
abbrev X_f2r : Type := Int
abbrev R_f2r : Type := Int
def J_f2r : BH Tryz.prog :=
 BN Tryz.prog Tryz.f188 25 [] [] [] [] [.any] [] [] R_f2r [] fun y => [(V.int .i64) y]
def S_f2r : AO :=
 Ah Tryz.f188 1 0 X_f2r (fun x => [(V.int .i64) x]) fun l => (dI (at_ l 0))
def tt_f2r (x : X_f2r) : TT Tryz.prog R_f2r :=
 (.ite (AW x 1)
 (.ret 1)
 (.ite (AW x 2)
 (.ret 10)
 (.ite (AW x 3)
 (.ret 2)
 (.ite (AW x 4)
 (.ret 11)
 (.ite (AW x 8)
 (.ret 4)
 (.ite (AW x 9)
 (.ret 5)
 (.ite (AW x 10)
 (.ret 6)
 (.ite (AW x 11)
 (.ret 6)
 (.ite (AW x 12)
 (.ret 7)
 (.ite (AW x 13)
 (.ret 3)
 (.ite (AW x 14)
 (.ret 8)
 (.ret 9))))))))))))
theorem sd_f2r (x : X_f2r) : (tt_f2r x).AJ :=
 (TT.sI TT.sR (TT.sI TT.sR (TT.sI TT.sR (TT.sI TT.sR (TT.sI TT.sR (TT.sI TT.sR (TT.sI TT.sR (TT.sI TT.sR (TT.sI TT.sR (TT.sI TT.sR (TT.sI TT.sR TT.sR)))))))))))
def D_f2r : AU X_f2r R_f2r := .of tt_f2r
def con_f2r : BC Tryz.prog :=
 Br 188 J_f2r S_f2r D_f2r 1 0 [.any] (lk mxk lbn sd_f2r)
end Go.Proofs.YtiamaibincaihaaGreat
end
