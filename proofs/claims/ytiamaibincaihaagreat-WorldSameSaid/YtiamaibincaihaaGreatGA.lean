/- What functions of the program come to, part A: no statement is proved here. -/
import Derived.Test.YtiamaibincaihaaGreatM
import Derived.Test.YtiamaibincaihaaGreatProg
import Derived.KernelRfl
noncomputable section
namespace Go.Proofs.YtiamaibincaihaaGreat
open Go Go.Vm Go.Proofs
set_option maxRecDepth 100000
theorem mxk : Tryz.prog.follows .mixedOrders = true := by kernel_rfl
def d_TRg (v : V) : TRg :=
 ⟨dI (fd v 0), dI (fd v 1), dI (fd v 2)⟩
def e_TRg (x : TRg) : V :=
 V.cons ((V.int .i64) x.Kind) (V.cons ((V.int .i64) x.DP) (V.cons ((V.int .i64) x.AR) (V.unit)))
theorem nu_e_TRg (x : TRg) : (e_TRg x).Cl := ⟨trivial, trivial, trivial, trivial⟩
abbrev Dsl_TRg : Type := (Sl TRg)
def esl_TRg : Dsl_TRg → V := (MX none 3 e_TRg)
def dsl_TRg : V → Dsl_TRg := (L9 d_TRg)
def hsl_TRg : Sh := (.sl none 3 (e_TRg (d_TRg .undef)))
def d_TIn (v : V) : TIn :=
 ⟨dI (fd v 0), dI (fd v 1), dI (fd v 2), dI (fd v 3), dI (fd v 4), dI (fd v 5)⟩
def e_TIn (x : TIn) : V :=
 V.cons ((V.int .i64) x.Op) (V.cons ((V.int .i64) x.A) (V.cons ((V.int .i64) x.B) (V.cons ((V.int .i64) x.C) (V.cons ((V.int .i64) x.D) (V.cons ((V.int .u64) x.K) (V.unit))))))
theorem nu_e_TIn (x : TIn) : (e_TIn x).Cl := ⟨trivial, trivial, trivial, trivial, trivial, trivial, trivial⟩
abbrev Dsl_TIn : Type := (Sl TIn)
def esl_TIn : Dsl_TIn → V := (MX none 6 e_TIn)
def dsl_TIn : V → Dsl_TIn := (L9 d_TIn)
def hsl_TIn : Sh := (.sl none 6 (e_TIn (d_TIn .undef)))
abbrev Dsl_sl_TIn : Type := (Sl (Sl TIn))
def esl_sl_TIn : Dsl_sl_TIn → V := (MX none 1 esl_TIn)
def dsl_sl_TIn : V → Dsl_sl_TIn := (L9 dsl_TIn)
def hsl_sl_TIn : Sh := (.sl none 1 (esl_TIn (dsl_TIn .undef)))
structure TPg where
 AF : (Sl TRg)
 AB : (Sl (Sl TIn))
def d_TPg (v : V) : TPg :=
 ⟨dsl_TRg (fd v 0), dsl_sl_TIn (fd v 1)⟩
def e_TPg (x : TPg) : V :=
 V.cons (esl_TRg x.AF) (V.cons (esl_sl_TIn x.AB) (V.unit))
theorem nu_e_TPg (x : TPg) : (e_TPg x).Cl := ⟨trivial, trivial, trivial⟩
def sh_TPg : Sh := (.cons hsl_TRg (.cons hsl_sl_TIn .any))
abbrev X_f3t : Type := Unit
abbrev R_f3t : Type := TPg
def J_f3t : BM Tryz.prog :=
 BS Tryz.prog Tryz.f36 5 [] [] [] [] [sh_TPg] [] [] R_f3t [] fun y => [e_TPg y]
def S_f3t : AO :=
 Aj Tryz.f36 0 0 X_f3t (fun _x => []) fun _l => ()
def tt_f3t (_x : X_f3t) : TT Tryz.prog R_f3t :=
 (.ret (TPg.mk (Sl.mk true 0 (fun _i1 => (TRg.mk 0 0 0))) (Sl.mk false 1 (fun _i1 => (Sl.mk false 1 (fun _i2 => (TIn.mk 25 0 0 0 0 0)))))))
theorem sd_f3t (x : X_f3t) : (tt_f3t x).AJ :=
 TT.sR
def D_f3t : AU X_f3t R_f3t := .of tt_f3t
def con_f3t : BE Tryz.prog :=
 B2 36 J_f3t S_f3t D_f3t 0 0 [] (lk mxk lbn sd_f3t)
abbrev X_f25 : Type := TRg
abbrev R_f25 : Type := Bool
def J_f25 : BM Tryz.prog :=
 BS Tryz.prog Tryz.f129 34 [(1, 3)] [] [] [] [.any] [] [] R_f25 [] fun y => [V.bool y]
def S_f25 : AO :=
 Aj Tryz.f129 1 0 X_f25 (fun x => [e_TRg x]) fun l => (d_TRg (at_ l 0))
structure X_f25_3 where
 N9 : TRg
def S_f25_3 : AO :=
 Ad Tryz.f129 3 [(1, .any)] [] [] X_f25_3 (fun x => [(Ch e_TRg) x.N9]) fun l => ⟨(Ci d_TRg) (at_ l 0)⟩
def tt_f25_3 (x : X_f25_3) : TT Tryz.prog R_f25 :=
 (.ite (AW x.N9.Kind 1)
 (.ite (AW x.N9.AR 1)
 (.ret true)
 (.ite (AW x.N9.Kind 2)
 (.ite (Bw 1 x.N9.AR)
 (.ret (Bw x.N9.AR 8))
 (.ret false))
 (.ret false)))
 (.ite (AW x.N9.Kind 2)
 (.ite (Bw 1 x.N9.AR)
 (.ret (Bw x.N9.AR 8))
 (.ret false))
 (.ret false)))
theorem sd_f25_3 (x : X_f25_3) : (tt_f25_3 x).AJ :=
 (TT.sI (TT.sI TT.sR (TT.sI (TT.sI TT.sR TT.sR) TT.sR)) (TT.sI (TT.sI TT.sR TT.sR) TT.sR))
def D_f25_3 : AU X_f25_3 R_f25 := .of tt_f25_3
theorem ok_f25_3 : AY J_f25 S_f25_3 D_f25_3 :=
 lk mxk lbn sd_f25_3
def tt_f25 (x : X_f25) : TT Tryz.prog R_f25 :=
 (.ite (Bq x.DP 1)
 (.ret false)
 (.ite (Bq 64 x.DP)
 (.ret false)
 (.AM S_f25_3 D_f25_3 (X_f25_3.mk x))))
theorem sd_f25 (x : X_f25) : (tt_f25 x).AJ :=
 (TT.sI TT.sR (TT.sI TT.sR TT.sJ))
def D_f25 : AU X_f25 R_f25 := .of tt_f25
def con_f25 : BE Tryz.prog :=
 B2 129 J_f25 S_f25 D_f25 1 0 [.any] (lk mxk (lbc ok_f25_3 rfl lbn) sd_f25)
abbrev X_f3j : Type := Int
abbrev R_f3j : Type := Bool
def J_f3j : BM Tryz.prog :=
 BS Tryz.prog Tryz.f196 9 [] [] [] [] [.any] [] [] R_f3j [] fun y => [V.bool y]
def S_f3j : AO :=
 Aj Tryz.f196 1 0 X_f3j (fun x => [(V.int .i64) x]) fun l => (dI (at_ l 0))
def tt_f3j (x : X_f3j) : TT Tryz.prog R_f3j :=
 (.ite (Bw 1 x)
 (.ret (Bw x 17))
 (.ret false))
theorem sd_f3j (x : X_f3j) : (tt_f3j x).AJ :=
 (TT.sI TT.sR TT.sR)
def D_f3j : AU X_f3j R_f3j := .of tt_f3j
def con_f3j : BE Tryz.prog :=
 B2 196 J_f3j S_f3j D_f3j 1 0 [.any] (lk mxk lbn sd_f3j)
structure TCl where
 a : Int
 b : Int
 c : Int
 d : Int
 k : Int
def d_TCl (v : V) : TCl :=
 ⟨dI (fd v 0), dI (fd v 1), dI (fd v 2), dI (fd v 3), dI (fd v 4)⟩
def e_TCl (x : TCl) : V :=
 V.cons ((V.int .i64) x.a) (V.cons ((V.int .i64) x.b) (V.cons ((V.int .i64) x.c) (V.cons ((V.int .i64) x.d) (V.cons ((V.int .u64) x.k) (V.unit)))))
theorem nu_e_TCl (x : TCl) : (e_TCl x).Cl := ⟨trivial, trivial, trivial, trivial, trivial, trivial⟩
abbrev X_f23 : Type := Int
abbrev R_f23 : Type := TCl × Bool
def J_f23 : BM Tryz.prog :=
 BS Tryz.prog Tryz.f181 39 [] [] [] [] [.any, .any] [] [con_f3j] R_f23 [] fun y => [V.Cb (V.cons (e_TCl y.1) (V.cons (V.bool y.2) (V.unit)))]
def S_f23 : AO :=
 Aj Tryz.f181 1 0 X_f23 (fun x => [(V.int .i64) x]) fun l => (dI (at_ l 0))
structure X_f23_24 where
 EB : Int
 Bv : TCl
def S_f23_24 : AO :=
 Ad Tryz.f181 24 (an [0, 2]) [] [(.loc 2 0, .any)] X_f23_24 (fun x => [(V.int .i64) x.EB, (V.ptr (.loc 2 0) []), e_TCl x.Bv]) fun l => ⟨dI (at_ l 0), d_TCl (at_ l 2)⟩
def tt_f23_24 (x : X_f23_24) : TT Tryz.prog R_f23 :=
 (.call con_f3j x.EB fun (y1 : R_f3j) =>
 (.ret ((TCl.mk 7 7 7 0 0), y1)))
theorem sd_f23_24 (x : X_f23_24) : (tt_f23_24 x).AJ :=
 (TT.sC fun _ => TT.sR)
def D_f23_24 : AU X_f23_24 R_f23 := .of tt_f23_24
theorem ok_f23_24 : AY J_f23 S_f23_24 D_f23_24 :=
 lk mxk lbn sd_f23_24
def tt_f23 (x : X_f23) : TT Tryz.prog R_f23 :=
 (.ite (AW x 1)
 (.ret ((TCl.mk 7 0 0 0 18446744073709551615), true))
 (.ite (AW x 2)
 (.ret ((TCl.mk 7 7 0 0 0), true))
 (.ite (AW x 23)
 (.ret ((TCl.mk 7 7 0 0 0), true))
 (.ite (AW x 15)
 (.ret ((TCl.mk 0 0 0 0 256), true))
 (.ite (AW x 16)
 (.ret ((TCl.mk 7 0 0 0 256), true))
 (.ite (AW x 17)
 (.ret ((TCl.mk 7 0 0 0 256), true))
 (.ite (AW x 18)
 (.ret ((TCl.mk 7 7 7 2 0), true))
 (.ite (AW x 19)
 (.ret ((TCl.mk 7 7 7 2 7), true))
 (.ite (AW x 20)
 (.ret ((TCl.mk 0 0 7 0 0), true))
 (.ite (AW x 21)
 (.ret ((TCl.mk 7 0 0 0 0), true))
 (.ite (AW x 22)
 (.ret ((TCl.mk 7 0 0 0 0), true))
 (.ite (AW x 24)
 (.ret ((TCl.mk 7 0 0 0 0), true))
 (.ite (AW x 25)
 (.ret ((TCl.mk 0 0 0 0 0), true))
 (.AM S_f23_24 D_f23_24 (X_f23_24.mk x (TCl.mk 0 0 0 0 0))))))))))))))))
theorem sd_f23 (x : X_f23) : (tt_f23 x).AJ :=
 (TT.sI TT.sR (TT.sI TT.sR (TT.sI TT.sR (TT.sI TT.sR (TT.sI TT.sR (TT.sI TT.sR (TT.sI TT.sR (TT.sI TT.sR (TT.sI TT.sR (TT.sI TT.sR (TT.sI TT.sR (TT.sI TT.sR (TT.sI TT.sR TT.sJ)))))))))))))
def D_f23 : AU X_f23 R_f23 := .of tt_f23
def con_f23 : BE Tryz.prog :=
 B2 181 J_f23 S_f23 D_f23 1 0 [.any] (lk mxk (lbc ok_f23_24 rfl lbn) sd_f23)
abbrev X_f3k : Type := TIn
abbrev R_f3k : Type := Bool
def J_f3k : BM Tryz.prog :=
 BS Tryz.prog Tryz.f152 67 [(1, 3), (5, 1)] [] [] [] [.any] [] [con_f23] R_f3k [] fun y => [V.bool y]
def S_f3k : AO :=
 Aj Tryz.f152 1 0 X_f3k (fun x => [e_TIn x]) fun l => (d_TIn (at_ l 0))
def tt_f3k (x : X_f3k) : TT Tryz.prog R_f3k :=
 (.call con_f23 x.Op fun (y1 : R_f23) =>
 (.ite y1.snd
 (.ite (Bw 0 x.A)
 (.ite (Bw x.A y1.fst.a)
 (.ite (Bw 0 x.B)
 (.ite (Bw x.B y1.fst.b)
 (.ite (Bw 0 x.C)
 (.ite (Bw x.C y1.fst.c)
 (.ite (Bw 0 x.D)
 (.ite (Bw x.D y1.fst.d)
 (.ret (Bw x.K y1.fst.k))
 (.ret false))
 (.ret false))
 (.ret false))
 (.ret false))
 (.ret false))
 (.ret false))
 (.ret false))
 (.ret false))
 (.ret false)))
theorem sd_f3k (x : X_f3k) : (tt_f3k x).AJ :=
 (TT.sC fun _ => (TT.sI (TT.sI (TT.sI (TT.sI (TT.sI (TT.sI (TT.sI (TT.sI (TT.sI TT.sR TT.sR) TT.sR) TT.sR) TT.sR) TT.sR) TT.sR) TT.sR) TT.sR) TT.sR))
def D_f3k : AU X_f3k R_f3k := .of tt_f3k
def con_f3k : BE Tryz.prog :=
 B2 152 J_f3k S_f3k D_f3k 1 0 [.any] (lk mxk lbn sd_f3k)
abbrev X_f3l : Type := TIn
abbrev R_f3l : Type := Bool
def J_f3l : BM Tryz.prog :=
 BS Tryz.prog Tryz.f153 11 [(1, 3)] [] [] [] [.any] [] [] R_f3l [] fun y => [V.bool y]
def S_f3l : AO :=
 Aj Tryz.f153 1 0 X_f3l (fun x => [e_TIn x]) fun l => (d_TIn (at_ l 0))
def tt_f3l (x : X_f3l) : TT Tryz.prog R_f3l :=
 (.ite (Bw 15 x.Op)
 (.ret (Bw x.Op 17))
 (.ret false))
theorem sd_f3l (x : X_f3l) : (tt_f3l x).AJ :=
 (TT.sI TT.sR TT.sR)
def D_f3l : AU X_f3l R_f3l := .of tt_f3l
def con_f3l : BE Tryz.prog :=
 B2 153 J_f3l S_f3l D_f3l 1 0 [.any] (lk mxk lbn sd_f3l)
abbrev X_f3h : Type := Int
abbrev R_f3h : Type := Bool
def J_f3h : BM Tryz.prog :=
 BS Tryz.prog Tryz.f171 13 [] [] [] [] [.any] [] [] R_f3h [] fun y => [V.bool y]
def S_f3h : AO :=
 Aj Tryz.f171 1 0 X_f3h (fun x => [(V.int .i64) x]) fun l => (dI (at_ l 0))
def tt_f3h (x : X_f3h) : TT Tryz.prog R_f3h :=
 (.ite (AW x 18)
 (.ret true)
 (.ite (AW x 19)
 (.ret true)
 (.ret (AW x 20))))
theorem sd_f3h (x : X_f3h) : (tt_f3h x).AJ :=
 (TT.sI TT.sR (TT.sI TT.sR TT.sR))
def D_f3h : AU X_f3h R_f3h := .of tt_f3h
def con_f3h : BE Tryz.prog :=
 B2 171 J_f3h S_f3h D_f3h 1 0 [.any] (lk mxk lbn sd_f3h)
abbrev X_f3q : Type := TPg × TIn × Int
abbrev R_f3q : Type := Int
def J_f3q : BM Tryz.prog :=
 BS Tryz.prog Tryz.f130 50 [(3, 3), (4, 3)] [] [] [] [.any] [] [con_f3h, con_f3l, con_f3k] R_f3q [] fun y => [(V.int .i64) y]
def S_f3q : AO :=
 Aj Tryz.f130 3 0 X_f3q (fun x => [e_TPg x.1, e_TIn x.2.1, (V.int .i64) x.2.2]) fun l => (d_TPg (at_ l 0), d_TIn (at_ l 1), dI (at_ l 2))
def tt_f3q (x : X_f3q) : TT Tryz.prog R_f3q :=
 (.call con_f3k x.snd.fst fun (y1 : R_f3k) =>
 (.ite (!y1)
 (.ret 6)
 (.call con_f3l x.snd.fst fun (y2 : R_f3l) =>
 (.ite y2
 (.ite (Bq (IntKind.u64.wrap x.snd.snd) x.snd.fst.K)
 (.ret 5)
 (.call con_f3h x.snd.fst.Op fun (y3 : R_f3h) =>
 (.ite y3
 (.ite (Bw ((x.fst.AF.n : Nat) : Int) x.snd.fst.C)
 (.ret 7)
 (.ite (AW x.snd.fst.Op 19)
 (.need (A6 x.snd.fst.C x.fst.AF.n) <|
 (.ite (Bw (IntKind.u64.wrap (x.fst.AF.get (Int.toNat x.snd.fst.C)).AR) x.snd.fst.K)
 (.ret 7)
 (.ret 0)))
 (.ret 0)))
 (.ite (AW x.snd.fst.Op 19)
 (.need (A6 x.snd.fst.C x.fst.AF.n) <|
 (.ite (Bw (IntKind.u64.wrap (x.fst.AF.get (Int.toNat x.snd.fst.C)).AR) x.snd.fst.K)
 (.ret 7)
 (.ret 0)))
 (.ret 0)))))
 (.call con_f3h x.snd.fst.Op fun (y3 : R_f3h) =>
 (.ite y3
 (.ite (Bw ((x.fst.AF.n : Nat) : Int) x.snd.fst.C)
 (.ret 7)
 (.ite (AW x.snd.fst.Op 19)
 (.need (A6 x.snd.fst.C x.fst.AF.n) <|
 (.ite (Bw (IntKind.u64.wrap (x.fst.AF.get (Int.toNat x.snd.fst.C)).AR) x.snd.fst.K)
 (.ret 7)
 (.ret 0)))
 (.ret 0)))
 (.ite (AW x.snd.fst.Op 19)
 (.need (A6 x.snd.fst.C x.fst.AF.n) <|
 (.ite (Bw (IntKind.u64.wrap (x.fst.AF.get (Int.toNat x.snd.fst.C)).AR) x.snd.fst.K)
 (.ret 7)
 (.ret 0)))
 (.ret 0))))))))
theorem sd_f3q (x : X_f3q) : (tt_f3q x).AJ :=
 (TT.sC fun _ => (TT.sI TT.sR (TT.sC fun _ => (TT.sI (TT.sI TT.sR (TT.sC fun _ => (TT.sI (TT.sI TT.sR (TT.sI (TT.sN (TT.sI TT.sR TT.sR)) TT.sR)) (TT.sI (TT.sN (TT.sI TT.sR TT.sR)) TT.sR)))) (TT.sC fun _ => (TT.sI (TT.sI TT.sR (TT.sI (TT.sN (TT.sI TT.sR TT.sR)) TT.sR)) (TT.sI (TT.sN (TT.sI TT.sR TT.sR)) TT.sR)))))))
def D_f3q : AU X_f3q R_f3q := .of tt_f3q
def con_f3q : BE Tryz.prog :=
 B2 130 J_f3q S_f3q D_f3q 3 0 [sh_TPg, .any, .any] (lk mxk lbn sd_f3q)
abbrev X_f3 : Type := TPg
abbrev R_f3 : Type := Int × Int × Int
def J_f3 : BM Tryz.prog :=
 BS Tryz.prog Tryz.f71 72 [(1, 3)] [] [] [] [.any, .any, .any] [] [con_f3q, con_f25] R_f3 [] fun y => [V.Cb (V.cons ((V.int .i64) y.1) (V.cons ((V.int .i64) y.2.1) (V.cons ((V.int .i64) y.2.2) (V.unit))))]
def S_f3 : AO :=
 Aj Tryz.f71 1 0 X_f3 (fun x => [e_TPg x]) fun l => (d_TPg (at_ l 0))
structure X_f3_4 where
 DF : TPg
def S_f3_4 : AO :=
 Ad Tryz.f71 4 [(1, .any)] [] [] X_f3_4 (fun x => [(Ch e_TPg) x.DF]) fun l => ⟨(Ci d_TPg) (at_ l 0)⟩
structure X_f3_5 where
 DF : TPg
 NU : (Sl TRg)
 E4 : Int
 GF : Int
def S_f3_5 : AO :=
 Ad Tryz.f71 5 [(1, .any), (29, hsl_TRg), (30, .any), (31, .any)] [] [] X_f3_5 (fun x => [(Ch e_TPg) x.DF, esl_TRg x.NU, (V.int .i64) x.E4, (V.int .i64) x.GF]) fun l => ⟨(Ci d_TPg) (at_ l 0), dsl_TRg (at_ l 1), dI (at_ l 2), dI (at_ l 3)⟩
structure X_f3_10 where
 DF : TPg
def S_f3_10 : AO :=
 Ad Tryz.f71 10 [(1, .any)] [] [] X_f3_10 (fun x => [(Ch e_TPg) x.DF]) fun l => ⟨(Ci d_TPg) (at_ l 0)⟩
structure X_f3_11 where
 DF : TPg
 Iq : (Sl (Sl TIn))
 ML : Int
 HW : Int
def S_f3_11 : AO :=
 Ad Tryz.f71 11 [(1, .any), (42, hsl_sl_TIn), (43, .any), (44, .any)] [] [] X_f3_11 (fun x => [(Ch e_TPg) x.DF, esl_sl_TIn x.Iq, (V.int .i64) x.ML, (V.int .i64) x.HW]) fun l => ⟨(Ci d_TPg) (at_ l 0), dsl_sl_TIn (at_ l 1), dI (at_ l 2), dI (at_ l 3)⟩
structure X_f3_16 where
 DF : TPg
 t_8 : Int
 l_9 : (Sl TIn)
 Iq : (Sl (Sl TIn))
 ML : Int
 HW : Int
 UC : (Sl TIn)
 VI : Int
 RS : Int
def S_f3_16 : AO :=
 Ad Tryz.f71 16 [(1, .any), (8, .any), (9, hsl_TIn), (42, hsl_sl_TIn), (43, .any), (44, .any), (53, hsl_TIn), (54, .any), (55, .any)] [] [] X_f3_16 (fun x => [(Ch e_TPg) x.DF, (V.int .i64) x.t_8, esl_TIn x.l_9, esl_sl_TIn x.Iq, (V.int .i64) x.ML, (V.int .i64) x.HW, esl_TIn x.UC, (V.int .i64) x.VI, (V.int .i64) x.RS]) fun l => ⟨(Ci d_TPg) (at_ l 0), dI (at_ l 1), dsl_TIn (at_ l 2), dsl_sl_TIn (at_ l 3), dI (at_ l 4), dI (at_ l 5), dsl_TIn (at_ l 6), dI (at_ l 7), dI (at_ l 8)⟩
structure X_f3_22 where
 DF : TPg
 Iq : (Sl (Sl TIn))
 ML : Int
 HW : Int
def S_f3_22 : AO :=
 Ad Tryz.f71 22 [(1, .any), (42, hsl_sl_TIn), (43, .any), (44, .any)] [] [] X_f3_22 (fun x => [(Ch e_TPg) x.DF, esl_sl_TIn x.Iq, (V.int .i64) x.ML, (V.int .i64) x.HW]) fun l => ⟨(Ci d_TPg) (at_ l 0), dsl_sl_TIn (at_ l 1), dI (at_ l 2), dI (at_ l 3)⟩
def tt_f3_22 (D_f3_11 : AU X_f3_11 R_f3) (x : X_f3_22) : TT Tryz.prog R_f3 :=
 (.AM S_f3_11 D_f3_11 (X_f3_11.mk x.DF x.Iq x.ML (IntKind.i64.wrap (x.HW + 1))))
theorem sd_f3_22 (D_f3_11 : AU X_f3_11 R_f3) (x : X_f3_22) : (tt_f3_22 D_f3_11 x).AJ :=
 TT.sJ
def D_f3_22 (D_f3_11 : AU X_f3_11 R_f3) : AU X_f3_22 R_f3 := .of (tt_f3_22 D_f3_11)
theorem ok_f3_22 (D_f3_11 : AU X_f3_11 R_f3) (h_11 : AY J_f3 S_f3_11 D_f3_11) : AY J_f3 S_f3_22 (D_f3_22 D_f3_11) :=
 lk mxk (lbc h_11 rfl lbn) (sd_f3_22 D_f3_11)
def tt_f3_16 (D_f3_11 : AU X_f3_11 R_f3) (D_f3_16 : AU X_f3_16 R_f3) (x : X_f3_16) : TT Tryz.prog R_f3 :=
 (.ite (Bq x.RS x.VI)
 (.need (A6 x.RS x.UC.n) <|
 (.call con_f3q (x.DF, ((x.UC.get (Int.toNat x.RS)), ((x.l_9.n : Nat) : Int))) fun (y3 : R_f3q) =>
 (.ite (!(AW y3 0))
 (.ret (x.t_8, (x.RS, y3)))
 (.AM S_f3_16 D_f3_16 (X_f3_16.mk x.DF x.t_8 x.l_9 x.Iq x.ML x.HW x.UC x.VI (IntKind.i64.wrap (x.RS + 1)))))))
 (.AM S_f3_22 (D_f3_22 D_f3_11) (X_f3_22.mk x.DF x.Iq x.ML x.HW)))
theorem sd_f3_16 (D_f3_11 : AU X_f3_11 R_f3) (D_f3_16 : AU X_f3_16 R_f3) (x : X_f3_16) : (tt_f3_16 D_f3_11 D_f3_16 x).AJ :=
 (TT.sI (TT.sN (TT.sC fun _ => (TT.sI TT.sR TT.sJ))) TT.sJ)
def D_f3_16 (D_f3_11 : AU X_f3_11 R_f3) : AU X_f3_16 R_f3 := AU.loop (tt_f3_16 D_f3_11)
theorem ok_f3_16 (D_f3_11 : AU X_f3_11 R_f3) (h_11 : AY J_f3 S_f3_11 D_f3_11) : AY J_f3 S_f3_16 (D_f3_16 D_f3_11) :=
 A8 fun D_f3_16 h_16 => lk mxk (lbc h_11 rfl (lbc h_16 rfl (lbc (ok_f3_22 D_f3_11 h_11) rfl lbn))) (sd_f3_16 D_f3_11 D_f3_16)
def tt_f3_11 (D_f3_11 : AU X_f3_11 R_f3) (x : X_f3_11) : TT Tryz.prog R_f3 :=
 (.ite (Bq x.HW x.ML)
 (.need (A6 x.HW x.Iq.n) <|
 (.ite (Bq 256 (((x.Iq.get (Int.toNat x.HW)).n : Nat) : Int))
 (.ret (x.HW, (256, 4)))
 (.AM S_f3_16 (D_f3_16 D_f3_11) (X_f3_16.mk x.DF x.HW (x.Iq.get (Int.toNat x.HW)) x.Iq x.ML x.HW (x.Iq.get (Int.toNat x.HW)) (((x.Iq.get (Int.toNat x.HW)).n : Nat) : Int) 0))))
 (.ret (0, (0, 0))))
theorem sd_f3_11 (D_f3_11 : AU X_f3_11 R_f3) (x : X_f3_11) : (tt_f3_11 D_f3_11 x).AJ :=
 (TT.sI (TT.sN (TT.sI TT.sR TT.sJ)) TT.sR)
def D_f3_11 : AU X_f3_11 R_f3 := AU.loop tt_f3_11
theorem ok_f3_11 : AY J_f3 S_f3_11 D_f3_11 :=
 A8 fun D_f3_11 h_11 => lk mxk (lbc h_11 rfl (lbc (ok_f3_22 D_f3_11 h_11) rfl (lbc (ok_f3_16 D_f3_11 h_11) rfl lbn))) (sd_f3_11 D_f3_11)
def tt_f3_10 (x : X_f3_10) : TT Tryz.prog R_f3 :=
 (.AM S_f3_11 D_f3_11 (X_f3_11.mk x.DF x.DF.AB ((x.DF.AB.n : Nat) : Int) 0))
theorem sd_f3_10 (x : X_f3_10) : (tt_f3_10 x).AJ :=
 TT.sJ
def D_f3_10 : AU X_f3_10 R_f3 := .of tt_f3_10
theorem ok_f3_10 : AY J_f3 S_f3_10 D_f3_10 :=
 lk mxk (lbc ok_f3_11 rfl lbn) sd_f3_10
def tt_f3_5 (D_f3_5 : AU X_f3_5 R_f3) (x : X_f3_5) : TT Tryz.prog R_f3 :=
 (.ite (Bq x.GF x.E4)
 (.need (A6 x.GF x.NU.n) <|
 (.call con_f25 (x.NU.get (Int.toNat x.GF)) fun (y2 : R_f25) =>
 (.ite (!y2)
 (.ret ((-(1 : Int)), (x.GF, 7)))
 (.AM S_f3_5 D_f3_5 (X_f3_5.mk x.DF x.NU x.E4 (IntKind.i64.wrap (x.GF + 1)))))))
 (.AM S_f3_10 D_f3_10 (X_f3_10.mk x.DF)))
theorem sd_f3_5 (D_f3_5 : AU X_f3_5 R_f3) (x : X_f3_5) : (tt_f3_5 D_f3_5 x).AJ :=
 (TT.sI (TT.sN (TT.sC fun _ => (TT.sI TT.sR TT.sJ))) TT.sJ)
def D_f3_5 : AU X_f3_5 R_f3 := AU.loop tt_f3_5
theorem ok_f3_5 : AY J_f3 S_f3_5 D_f3_5 :=
 A8 fun D_f3_5 h_5 => lk mxk (lbc h_5 rfl (lbc ok_f3_11 rfl (lbc ok_f3_10 rfl lbn))) (sd_f3_5 D_f3_5)
def tt_f3_4 (x : X_f3_4) : TT Tryz.prog R_f3 :=
 (.AM S_f3_5 D_f3_5 (X_f3_5.mk x.DF x.DF.AF ((x.DF.AF.n : Nat) : Int) 0))
theorem sd_f3_4 (x : X_f3_4) : (tt_f3_4 x).AJ :=
 TT.sJ
def D_f3_4 : AU X_f3_4 R_f3 := .of tt_f3_4
theorem ok_f3_4 : AY J_f3 S_f3_4 D_f3_4 :=
 lk mxk (lbc ok_f3_11 rfl (lbc ok_f3_10 rfl (lbc ok_f3_5 rfl lbn))) sd_f3_4
def tt_f3 (x : X_f3) : TT Tryz.prog R_f3 :=
 (.ite (AW ((x.AB.n : Nat) : Int) 0)
 (.ret (0, (0, 1)))
 (.ite (Bq 8 ((x.AB.n : Nat) : Int))
 (.ret (0, (0, 1)))
 (.ite (Bq 8 ((x.AF.n : Nat) : Int))
 (.ret (0, (0, 1)))
 (.AM S_f3_4 D_f3_4 (X_f3_4.mk x)))))
theorem sd_f3 (x : X_f3) : (tt_f3 x).AJ :=
 (TT.sI TT.sR (TT.sI TT.sR (TT.sI TT.sR TT.sJ)))
def D_f3 : AU X_f3 R_f3 := .of tt_f3
def con_f3 : BE Tryz.prog :=
 B2 71 J_f3 S_f3 D_f3 1 0 [sh_TPg] (lk mxk (lbc ok_f3_11 rfl (lbc ok_f3_10 rfl (lbc ok_f3_5 rfl (lbc ok_f3_4 rfl lbn)))) sd_f3)
abbrev X_f3c : Type := TPg
abbrev R_f3c : Type := Bool
def J_f3c : BM Tryz.prog :=
 BS Tryz.prog Tryz.f37 14 [(1, 3), (6, 1)] [] [] [] [.any] [] [con_f3] R_f3c [] fun y => [V.bool y]
def S_f3c : AO :=
 Aj Tryz.f37 1 0 X_f3c (fun x => [e_TPg x]) fun l => (d_TPg (at_ l 0))
def tt_f3c (x : X_f3c) : TT Tryz.prog R_f3c :=
 (.call con_f3 x fun (y1 : R_f3) =>
 (.ret (AW y1.snd.snd 0)))
theorem sd_f3c (x : X_f3c) : (tt_f3c x).AJ :=
 (TT.sC fun _ => TT.sR)
def D_f3c : AU X_f3c R_f3c := .of tt_f3c
def con_f3c : BE Tryz.prog :=
 B2 37 J_f3c S_f3c D_f3c 1 0 [sh_TPg] (lk mxk lbn sd_f3c)
abbrev X_f22 : Type := (Sl TRg)
abbrev R_f22 : Type := (Sl TRg)
def J_f22 : BM Tryz.prog :=
 BS Tryz.prog Tryz.f72 8 [(6, 1)] [] [] [.E0 2] [hsl_TRg] [] [] R_f22 [] fun y => [esl_TRg y]
def S_f22 : AO :=
 Aj Tryz.f72 1 0 X_f22 (fun x => [esl_TRg x]) fun l => (dsl_TRg (at_ l 0))
def tt_f22 (x : X_f22) : TT Tryz.prog R_f22 :=
 (.ite x.nil
 (.ret (Sl.mk true 0 (fun _i1 => (TRg.mk 0 0 0))))
 (.need (true && (room ((0 : Nat) + x.n) 24)) <|
 (.ret (Sl.mk (cond (Nat.beq x.n 0) false false) ((0 : Nat) + x.n) (fun i1 => (TRg.mk (cond (Nat.blt i1 0) (0 : Int) (x.get (i1 - 0)).Kind) (cond (Nat.blt i1 0) (0 : Int) (x.get (i1 - 0)).DP) (cond (Nat.blt i1 0) (0 : Int) (x.get (i1 - 0)).AR)))))))
theorem sd_f22 (x : X_f22) : (tt_f22 x).AJ :=
 (TT.sI TT.sR (TT.sN TT.sR))
def D_f22 : AU X_f22 R_f22 := .of tt_f22
def con_f22 : BE Tryz.prog :=
 B2 72 J_f22 S_f22 D_f22 1 0 [hsl_TRg] (lk mxk lbn sd_f22)
abbrev X_f1v : Type := (Sl TIn)
abbrev R_f1v : Type := (Sl TIn)
def J_f1v : BM Tryz.prog :=
 BS Tryz.prog Tryz.f73 8 [(6, 1)] [] [] [.E0 2] [hsl_TIn] [] [] R_f1v [] fun y => [esl_TIn y]
def S_f1v : AO :=
 Aj Tryz.f73 1 0 X_f1v (fun x => [esl_TIn x]) fun l => (dsl_TIn (at_ l 0))
def tt_f1v (x : X_f1v) : TT Tryz.prog R_f1v :=
 (.ite x.nil
 (.ret (Sl.mk true 0 (fun _i1 => (TIn.mk 0 0 0 0 0 0))))
 (.need (true && (room ((0 : Nat) + x.n) 48)) <|
 (.ret (Sl.mk (cond (Nat.beq x.n 0) false false) ((0 : Nat) + x.n) (fun i1 => (TIn.mk (cond (Nat.blt i1 0) (0 : Int) (x.get (i1 - 0)).Op) (cond (Nat.blt i1 0) (0 : Int) (x.get (i1 - 0)).A) (cond (Nat.blt i1 0) (0 : Int) (x.get (i1 - 0)).B) (cond (Nat.blt i1 0) (0 : Int) (x.get (i1 - 0)).C) (cond (Nat.blt i1 0) (0 : Int) (x.get (i1 - 0)).D) (cond (Nat.blt i1 0) (0 : Int) (x.get (i1 - 0)).K)))))))
theorem sd_f1v (x : X_f1v) : (tt_f1v x).AJ :=
 (TT.sI TT.sR (TT.sN TT.sR))
def D_f1v : AU X_f1v R_f1v := .of tt_f1v
def con_f1v : BE Tryz.prog :=
 B2 73 J_f1v S_f1v D_f1v 1 0 [hsl_TIn] (lk mxk lbn sd_f1v)
abbrev DslA_sl_TIn : Type := (Sl (Sl TIn))
def eslA_sl_TIn : DslA_sl_TIn → V := (MX (some 116) 1 esl_TIn)
def dslA_sl_TIn : V → DslA_sl_TIn := (L9 dsl_TIn)
def hslA_sl_TIn : Sh := (.sl (some 116) 1 (esl_TIn (dsl_TIn .undef)))
def e_TPg_1 (x : TPg) : V :=
 V.cons (esl_TRg x.AF) (V.cons (eslA_sl_TIn x.AB) (V.unit))
theorem nu_e_TPg_1 (x : TPg) : (e_TPg_1 x).Cl := ⟨trivial, trivial, trivial⟩
def sh_TPg_1 : Sh := (.cons hsl_TRg (.cons hslA_sl_TIn .any))
abbrev X_f10 : Type := TPg
abbrev R_f10 : Type := TPg
def J_f10 : BM Tryz.prog :=
 BS Tryz.prog Tryz.f38 26 [(1, 3), (18, 1), (19, 1)] [] [] [] [sh_TPg] [] [con_f1v, con_f22] R_f10 [] fun y => [e_TPg y]
def S_f10 : AO :=
 Aj Tryz.f38 1 0 X_f10 (fun x => [e_TPg x]) fun l => (d_TPg (at_ l 0))
structure X_f10_3 where
 Sp : (Sl (Sl TIn))
 UF : Int
 Pv : Int
 Bv : TPg
 BC : TPg
def S_f10_3 : AO :=
 Ad Tryz.f38 3 [(2, .any), (3, .any), (11, hsl_sl_TIn), (12, .any), (13, .any)] [] [(.loc 2 0, sh_TPg), (.loc 3 0, sh_TPg_1)] X_f10_3 (fun x => [(V.ptr (.loc 2 0) []), (V.ptr (.loc 3 0) []), esl_sl_TIn x.Sp, (V.int .i64) x.UF, (V.int .i64) x.Pv, e_TPg x.Bv, e_TPg_1 x.BC]) fun l => ⟨dsl_sl_TIn (at_ l 2), dI (at_ l 3), dI (at_ l 4), d_TPg (at_ l 5), d_TPg (at_ l 6)⟩
def tt_f10_3 (D_f10_3 : AU X_f10_3 R_f10) (x : X_f10_3) : TT Tryz.prog R_f10 :=
 (.ite (Bq x.Pv x.UF)
 (.need (A6 x.Pv x.Sp.n) <|
 (.call con_f1v (x.Sp.get (Int.toNat x.Pv)) fun (y2 : R_f1v) =>
 (.need (true && (room (x.BC.AB.n + 1) 24)) <|
 (.AM S_f10_3 D_f10_3 (X_f10_3.mk x.Sp x.UF (IntKind.i64.wrap (x.Pv + 1)) x.Bv (TPg.mk x.BC.AF (Sl.mk (cond (Nat.beq 1 0) x.BC.AB.nil false) (x.BC.AB.n + 1) (fun i3 => (Sl.mk (cond (Nat.blt i3 x.BC.AB.n) (x.BC.AB.get i3).nil y2.nil) (cond (Nat.blt i3 x.BC.AB.n) (x.BC.AB.get i3).n y2.n) (fun i4 => (TIn.mk (cond (Nat.blt i3 x.BC.AB.n) ((x.BC.AB.get i3).get i4).Op (y2.get i4).Op) (cond (Nat.blt i3 x.BC.AB.n) ((x.BC.AB.get i3).get i4).A (y2.get i4).A) (cond (Nat.blt i3 x.BC.AB.n) ((x.BC.AB.get i3).get i4).B (y2.get i4).B) (cond (Nat.blt i3 x.BC.AB.n) ((x.BC.AB.get i3).get i4).C (y2.get i4).C) (cond (Nat.blt i3 x.BC.AB.n) ((x.BC.AB.get i3).get i4).D (y2.get i4).D) (cond (Nat.blt i3 x.BC.AB.n) ((x.BC.AB.get i3).get i4).K (y2.get i4).K))))))))))))
 (.ret x.BC))
theorem sd_f10_3 (D_f10_3 : AU X_f10_3 R_f10) (x : X_f10_3) : (tt_f10_3 D_f10_3 x).AJ :=
 (TT.sI (TT.sN (TT.sC fun _ => (TT.sN TT.sJ))) TT.sR)
def D_f10_3 : AU X_f10_3 R_f10 := AU.loop tt_f10_3
theorem ok_f10_3 : AY J_f10 S_f10_3 D_f10_3 :=
 A8 fun D_f10_3 h_3 => lk mxk (lbc h_3 rfl lbn) (sd_f10_3 D_f10_3)
def tt_f10 (x : X_f10) : TT Tryz.prog R_f10 :=
 (.call con_f22 x.AF fun (y1 : R_f22) =>
 (.AM S_f10_3 D_f10_3 (X_f10_3.mk x.AB ((x.AB.n : Nat) : Int) 0 (TPg.mk (Sl.mk true 0 (fun _i2 => (TRg.mk 0 0 0))) (Sl.mk true 0 (fun _i2 => (Sl.mk true 0 (fun _i3 => (TIn.mk 0 0 0 0 0 0)))))) (TPg.mk y1 (Sl.mk true 0 (fun _i2 => (Sl.mk true 0 (fun _i3 => (TIn.mk 0 0 0 0 0 0)))))))))
theorem sd_f10 (x : X_f10) : (tt_f10 x).AJ :=
 (TT.sC fun _ => TT.sJ)
def D_f10 : AU X_f10 R_f10 := .of tt_f10
def con_f10 : BE Tryz.prog :=
 B2 38 J_f10 S_f10 D_f10 1 0 [sh_TPg] (lk mxk (lbc ok_f10_3 rfl lbn) sd_f10)
abbrev X_f3u : Type := Int × Int
abbrev R_f3u : Type := Bool
def J_f3u : BM Tryz.prog :=
 BS Tryz.prog Tryz.f131 19 [] [] [] [] [.any] [] [] R_f3u [] fun y => [V.bool y]
def S_f3u : AO :=
 Aj Tryz.f131 2 0 X_f3u (fun x => [(V.int .i64) x.1, (V.int .i64) x.2]) fun l => (dI (at_ l 0), dI (at_ l 1))
def tt_f3u (x : X_f3u) : TT Tryz.prog R_f3u :=
 (.ite (Bw 1 x.fst)
 (.ite (Bw x.fst 64)
 (.ite (Bw 1 x.snd)
 (.ret (Bw x.snd 8))
 (.ret false))
 (.ret false))
 (.ret false))
theorem sd_f3u (x : X_f3u) : (tt_f3u x).AJ :=
 (TT.sI (TT.sI (TT.sI TT.sR TT.sR) TT.sR) TT.sR)
def D_f3u : AU X_f3u R_f3u := .of tt_f3u
def con_f3u : BE Tryz.prog :=
 B2 131 J_f3u S_f3u D_f3u 2 0 [.any, .any] (lk mxk lbn sd_f3u)
abbrev X_f2s : Type := Int
abbrev R_f2s : Type := Int
def J_f2s : BM Tryz.prog :=
 BS Tryz.prog Tryz.f132 5 [] [] [] [] [.any] [] [] R_f2s [] fun y => [(V.int .u64) y]
def S_f2s : AO :=
 Aj Tryz.f132 1 0 X_f2s (fun x => [(V.int .u64) x]) fun l => (dI (at_ l 0))
def tt_f2s (x : X_f2s) : TT Tryz.prog R_f2s :=
 (.ret (IntKind.u64.wrap ((2 : Int) * x)))
theorem sd_f2s (x : X_f2s) : (tt_f2s x).AJ :=
 TT.sR
def D_f2s : AU X_f2s R_f2s := .of tt_f2s
def con_f2s : BE Tryz.prog :=
 B2 132 J_f2s S_f2s D_f2s 1 0 [.any] (lk mxk lbn sd_f2s)
def d_TSo (v : V) : TSo :=
 ⟨dI (fd v 0), dI (fd v 1), dI (fd v 2)⟩
def e_TSo (x : TSo) : V :=
 V.cons ((V.int .u64) x.AP) (V.cons ((V.int .u64) x.Value) (V.cons ((V.int .i64) x.Left) (V.unit)))
theorem nu_e_TSo (x : TSo) : (e_TSo x).Cl := ⟨trivial, trivial, trivial, trivial⟩
abbrev Dsl_TSo : Type := (Sl TSo)
def esl_TSo : Dsl_TSo → V := (MX none 3 e_TSo)
def dsl_TSo : V → Dsl_TSo := (L9 d_TSo)
def hsl_TSo : Sh := (.sl none 3 (e_TSo (d_TSo .undef)))
abbrev Dosl_TSo : Type := (Sl TSo)
def eosl_TSo : Dosl_TSo → V := (Ul 175 3 e_TSo)
def dosl_TSo : V → Dosl_TSo := (L9 d_TSo)
def hosl_TSo : Sh := (.BA 175 3 (e_TSo (d_TSo .undef)))
structure TSs where
 l : (Sl TSo)
 AX : Int
def d_TSs (v : V) : TSs :=
 ⟨dosl_TSo (fd v 0), dI (fd v 1)⟩
def e_TSs (x : TSs) : V :=
 V.cons (eosl_TSo x.l) (V.cons ((V.int .i64) x.AX) (V.unit))
theorem nu_e_TSs (x : TSs) : (e_TSs x).Cl := ⟨(fun _ _ => (nu_e_TSo) _ : ∀ y, (eosl_TSo y).Cl) x.l, trivial, trivial⟩
def sh_TSs : Sh := (.cons hosl_TSo .any)
abbrev Dbox_TSs : Type := (Bx TSs)
def ebox_TSs : Dbox_TSs → V := (eBx e_TSs)
def dbox_TSs : V → Dbox_TSs := (dBx d_TSs)
def hbox_TSs : Sh := (.box (e_TSs (d_TSs .undef)))
abbrev X_f1t : Type := Int × Int
abbrev R_f1t : Type := (Bx TSs) × Int
def J_f1t : BM Tryz.prog :=
 BS Tryz.prog Tryz.f74 37 [(13, 1)] [(5, [.close (.loc 28 0), .close (.loc 20 0)]), (6, [.close (.loc 28 0), .close (.loc 20 0)]), (7, [.close (.loc 28 0), .close (.loc 20 0)]), (8, [.close (.loc 28 0), .close (.loc 20 0)]), (9, [.close (.loc 28 0), .close (.loc 20 0)])] [(7, [.Ia (.loc 16 0) [.CI 0 0] 28])] [.close (.loc 28 0), .close (.loc 20 0), .E0 4] [hbox_TSs, .any] [] [con_f2s, con_f3u] R_f1t [(0, [⟨.loc 28 0, .loc 16 0, [.CI 0 0], none, none⟩]), (5, [⟨.loc 28 0, .loc 16 0, [.CI 0 0], none, none⟩])] fun y => [V.Cb (V.cons (ebox_TSs y.1) (V.cons ((V.int .i64) y.2) (V.unit)))]
def S_f1t : AO :=
 Aj Tryz.f74 2 0 X_f1t (fun x => [(V.int .i64) x.1, (V.int .i64) x.2]) fun l => (dI (at_ l 0), dI (at_ l 1))
structure X_f1t_5 where
 MM : Int
 HX : Int
 DT : TSs
def S_f1t_5 : AO :=
 Ad Tryz.f74 5 (an [6, 21, 22]) [] [(.loc 16 0, sh_TSs)] X_f1t_5 (fun x => [(V.ptr (.loc 16 0) []), (V.int .i64) x.MM, (V.int .i64) x.HX, e_TSs x.DT]) fun l => ⟨dI (at_ l 1), dI (at_ l 2), d_TSs (at_ l 3)⟩
def tt_f1t_5 (D_f1t_5 : AU X_f1t_5 R_f1t) (x : X_f1t_5) : TT Tryz.prog R_f1t :=
 (.ite (Bq x.HX x.MM)
 (.call con_f2s (IntKind.u64.wrap x.HX) fun (y2 : R_f2s) =>
 (.need (A6 x.HX x.DT.l.n) <|
 (.need ((Nat.beq x.DT.l.n x.DT.l.n) && true) <|
 (.need ((true && true) && (Nat.beq x.DT.l.n x.DT.l.n)) <|
 (.AM S_f1t_5 D_f1t_5 (X_f1t_5.mk x.MM (IntKind.i64.wrap (x.HX + 1)) (TSs.mk (Sl.mk x.DT.l.nil x.DT.l.n (fun i3 => (TSo.mk (cond (Nat.beq i3 ((0 : Nat) + (Int.toNat x.HX))) y2 (x.DT.l.get i3).AP) (cond (Nat.beq i3 ((0 : Nat) + (Int.toNat x.HX))) (x.DT.l.get ((0 : Nat) + (Int.toNat x.HX))).Value (x.DT.l.get i3).Value) (cond (Nat.beq i3 ((0 : Nat) + (Int.toNat x.HX))) (x.DT.l.get ((0 : Nat) + (Int.toNat x.HX))).Left (x.DT.l.get i3).Left)))) x.DT.AX)))))))
 (.ret ((Bx.mk false x.DT), 0)))
theorem sd_f1t_5 (D_f1t_5 : AU X_f1t_5 R_f1t) (x : X_f1t_5) : (tt_f1t_5 D_f1t_5 x).AJ :=
 (TT.sI (TT.sC fun _ => (TT.sN (TT.sN (TT.sN TT.sJ)))) TT.sR)
def D_f1t_5 : AU X_f1t_5 R_f1t := AU.loop tt_f1t_5
theorem ok_f1t_5 : AY J_f1t S_f1t_5 D_f1t_5 :=
 A8 fun D_f1t_5 h_5 => lk mxk (lbc h_5 rfl lbn) (sd_f1t_5 D_f1t_5)
def tt_f1t (x : X_f1t) : TT Tryz.prog R_f1t :=
 (.call con_f3u x fun (y1 : R_f3u) =>
 (.ite (!y1)
 (.ret ((Bx.mk true (TSs.mk (Sl.mk true 0 (fun _i2 => (TSo.mk 0 0 0))) 0)), 1))
 (.need ((((upto x.fst (Int.toNat x.fst)) && (Bw 0 x.fst)) && (room (Int.toNat x.fst) 24)) && (decide ((x.fst ≤ (9223372036854775807 : Int))))) <|
 (.need ((true && true) && (Nat.beq (Int.toNat x.fst) (Int.toNat x.fst))) <|
 (.AM S_f1t_5 D_f1t_5 (X_f1t_5.mk (((Int.toNat x.fst) : Nat) : Int) 0 (TSs.mk (Sl.mk false (Int.toNat x.fst) (fun _i2 => (TSo.mk 0 0 0))) x.snd)))))))
theorem sd_f1t (x : X_f1t) : (tt_f1t x).AJ :=
 (TT.sC fun _ => (TT.sI TT.sR (TT.sN (TT.sN TT.sJ))))
def D_f1t : AU X_f1t R_f1t := .of tt_f1t
def con_f1t : BE Tryz.prog :=
 B2 74 J_f1t S_f1t D_f1t 2 0 [.any, .any] (lk mxk (lbc ok_f1t_5 rfl lbn) sd_f1t)
abbrev X_f46 : Type := TRg
abbrev R_f46 : Type := Bool
def J_f46 : BM Tryz.prog :=
 BS Tryz.prog Tryz.f75 12 [(1, 3)] [] [] [] [.any] [] [] R_f46 [] fun y => [V.bool y]
def S_f46 : AO :=
 Aj Tryz.f75 1 0 X_f46 (fun x => [e_TRg x]) fun l => (d_TRg (at_ l 0))
def tt_f46 (x : X_f46) : TT Tryz.prog R_f46 :=
 (.ite (AW x.Kind 1)
 (.ret (AW x.AR 1))
 (.ite (AW x.Kind 2)
 (.ret true)
 (.ret false)))
theorem sd_f46 (x : X_f46) : (tt_f46 x).AJ :=
 (TT.sI TT.sR (TT.sI TT.sR TT.sR))
def D_f46 : AU X_f46 R_f46 := .of tt_f46
def con_f46 : BE Tryz.prog :=
 B2 75 J_f46 S_f46 D_f46 1 0 [.any] (lk mxk lbn sd_f46)
abbrev PR : Type := (Sl Int)
def Ll : PR → V := (Ul 36 1 (V.int .u64))
def Tf : V → PR := (L9 dI)
def O0 : Sh := (.BA 36 1 (V.int .u64 0))
structure TRc where
 tail : Int
 AD : (Sl Int)
def d_TRc (v : V) : TRc :=
 ⟨dI (fd v 0), Tf (fd v 1)⟩
def e_TRc (x : TRc) : V :=
 V.cons ((V.int .u64) x.tail) (V.cons (Ll x.AD) (V.unit))
theorem nu_e_TRc (x : TRc) : (e_TRc x).Cl := ⟨trivial, (fun _ _ => trivial : ∀ y, (Ll y).Cl) x.AD, trivial⟩
def sh_TRc : Sh := (.cons .any (.cons O0 .any))
structure TRr where
 AA : TRc
 s : (Bx TSs)
 most : Int
 closed : Bool
def d_TRr (v : V) : TRr :=
 ⟨d_TRc (fd v 0), dbox_TSs (fd v 1), dI (fd v 2), dB (fd v 3)⟩
def e_TRr (x : TRr) : V :=
 V.cons (e_TRc x.AA) (V.cons (ebox_TSs x.s) (V.cons ((V.int .u64) x.most) (V.cons (V.bool x.closed) (V.unit))))
theorem nu_e_TRr (x : TRr) : (e_TRr x).Cl := ⟨(nu_e_TRc : ∀ y, (e_TRc y).Cl) x.AA, (fun _ => (nu_e_TSs) _ : ∀ y, (ebox_TSs y).Cl) x.s, trivial, trivial, trivial⟩
def sh_TRr : Sh := (.cons sh_TRc (.cons hbox_TSs .any))
abbrev Dbox_TRr : Type := (Bx TRr)
def ebox_TRr : Dbox_TRr → V := (eBx e_TRr)
def dbox_TRr : V → Dbox_TRr := (dBx d_TRr)
def hbox_TRr : Sh := (.box (e_TRr (d_TRr .undef)))
abbrev X_f2r : Type := TRg
abbrev R_f2r : Type := (Bx TRr) × Int
def J_f2r : BM Tryz.prog :=
 BS Tryz.prog Tryz.f39 31 [(1, 3), (6, 1), (23, 1), (25, 1)] [] [] [.E0 2] [hbox_TRr, .any] [] [con_f46, con_f1t] R_f2r [] fun y => [V.Cb (V.cons (ebox_TRr y.1) (V.cons ((V.int .i64) y.2) (V.unit)))]
def S_f2r : AO :=
 Aj Tryz.f39 1 0 X_f2r (fun x => [e_TRg x]) fun l => (d_TRg (at_ l 0))
structure X_f2r_4 where
 N9 : TRg
 s_4 : (Bx TSs)
def S_f2r_4 : AO :=
 Ad Tryz.f39 4 [(1, .any), (4, hbox_TSs)] [] [] X_f2r_4 (fun x => [(Ch e_TRg) x.N9, ebox_TSs x.s_4]) fun l => ⟨(Ci d_TRg) (at_ l 0), dbox_TSs (at_ l 1)⟩
def tt_f2r_4 (x : X_f2r_4) : TT Tryz.prog R_f2r :=
 (.need ((((upto x.N9.AR (Int.toNat x.N9.AR)) && (Bw 0 x.N9.AR)) && (room (Int.toNat x.N9.AR) 8)) && (decide ((x.N9.AR ≤ (9223372036854775807 : Int))))) <|
 (.ret ((Bx.mk false (TRr.mk (TRc.mk 0 (Sl.mk false (Int.toNat x.N9.AR) (fun _i1 => (0 : Int)))) x.s_4 (IntKind.u64.wrap x.N9.DP) false)), 0)))
theorem sd_f2r_4 (x : X_f2r_4) : (tt_f2r_4 x).AJ :=
 (TT.sN TT.sR)
def D_f2r_4 : AU X_f2r_4 R_f2r := .of tt_f2r_4
theorem ok_f2r_4 : AY J_f2r S_f2r_4 D_f2r_4 :=
 lk mxk lbn sd_f2r_4
def tt_f2r (x : X_f2r) : TT Tryz.prog R_f2r :=
 (.call con_f1t (x.DP, x.AR) fun (y1 : R_f1t) =>
 (.ite (!(AW y1.snd 0))
 (.ret ((Bx.mk true (TRr.mk (TRc.mk 0 (Sl.mk true 0 (fun _i2 => (0 : Int)))) (Bx.mk true (TSs.mk (Sl.mk true 0 (fun _i2 => (TSo.mk 0 0 0))) 0)) 0 false)), 1))
 (.call con_f46 x fun (y2 : R_f46) =>
 (.ite (!y2)
 (.ret ((Bx.mk true (TRr.mk (TRc.mk 0 (Sl.mk true 0 (fun _i3 => (0 : Int)))) (Bx.mk true (TSs.mk (Sl.mk true 0 (fun _i3 => (TSo.mk 0 0 0))) 0)) 0 false)), 1))
 (.AM S_f2r_4 D_f2r_4 (X_f2r_4.mk x y1.fst))))))
theorem sd_f2r (x : X_f2r) : (tt_f2r x).AJ :=
 (TT.sC fun _ => (TT.sI TT.sR (TT.sC fun _ => (TT.sI TT.sR TT.sJ))))
def D_f2r : AU X_f2r R_f2r := .of tt_f2r
def con_f2r : BE Tryz.prog :=
 B2 39 J_f2r S_f2r D_f2r 1 0 [.any] (lk mxk (lbc ok_f2r_4 rfl lbn) sd_f2r)
abbrev Dsl_box_TRr : Type := (Sl (Bx TRr))
def esl_box_TRr : Dsl_box_TRr → V := (MX none 1 ebox_TRr)
def dsl_box_TRr : V → Dsl_box_TRr := (L9 dbox_TRr)
def hsl_box_TRr : Sh := (.sl none 1 (ebox_TRr (dbox_TRr .undef)))
abbrev Q8 : Type := (Sl Int)
def BG : Q8 → V := (MX none 1 (V.int .u64))
def Bc : V → Q8 := (L9 dI)
def BP : Sh := (.sl none 1 (V.int .u64 0))
structure TTh where
 At : Int
 Phase : Int
 Ring : Int
 Status : Int
 AG : Int
 Ae : (Nat → Int)
 Seen : (Sl Int)
def d_TTh (v : V) : TTh :=
 ⟨dI (fd v 0), dI (fd v 1), dI (fd v 2), dI (fd v 3), dI (fd v 4), (dArr dI) (fd v 5), Bc (fd v 6)⟩
def e_TTh (x : TTh) : V :=
 V.cons ((V.int .i64) x.At) (V.cons ((V.int .i64) x.Phase) (V.cons ((V.int .i64) x.Ring) (V.cons ((V.int .i64) x.Status) (V.cons ((V.int .u64) x.AG) (V.cons ((R5 1 8 (V.int .u64)) x.Ae) (V.cons (BG x.Seen) (V.unit)))))))
theorem nu_e_TTh (x : TTh) : (e_TTh x).Cl := ⟨trivial, trivial, trivial, trivial, trivial, (fun _ _ => trivial : ∀ y, ((R5 1 8 (V.int .u64)) y).Cl) x.Ae, trivial, trivial⟩
def sh_TTh : Sh := (.cons .any (.cons .any (.cons .any (.cons .any (.cons .any (.cons .any (.cons BP .any)))))))
abbrev Dosl_TTh : Type := (Sl TTh)
def eosl_TTh : Dosl_TTh → V := (Ul 71 14 e_TTh)
def dosl_TTh : V → Dosl_TTh := (L9 d_TTh)
def hosl_TTh : Sh := (.BA 71 14 (e_TTh (d_TTh .undef)))
abbrev Dosl_box_TRr : Type := (Sl (Bx TRr))
def eosl_box_TRr : Dosl_box_TRr → V := (Ul 88 1 ebox_TRr)
def dosl_box_TRr : V → Dosl_box_TRr := (L9 dbox_TRr)
def hosl_box_TRr : Sh := (.BA 88 1 (ebox_TRr (dbox_TRr .undef)))
structure TFa where
 p : TPg
 threads : (Sl TTh)
 rings : (Sl (Bx TRr))
 now : Int
 reads : Int
 ended : Bool
def d_TFa (v : V) : TFa :=
 ⟨d_TPg (fd v 0), dosl_TTh (fd v 1), dosl_box_TRr (fd v 2), dI (fd v 3), dI (fd v 4), dB (fd v 5)⟩
def e_TFa (x : TFa) : V :=
 V.cons (e_TPg x.p) (V.cons (eosl_TTh x.threads) (V.cons (eosl_box_TRr x.rings) (V.cons ((V.int .u64) x.now) (V.cons ((V.int .u64) x.reads) (V.cons (V.bool x.ended) (V.unit))))))
theorem nu_e_TFa (x : TFa) : (e_TFa x).Cl := ⟨(nu_e_TPg : ∀ y, (e_TPg y).Cl) x.p, (fun _ _ => (nu_e_TTh) _ : ∀ y, (eosl_TTh y).Cl) x.threads, (fun _ _ => (fun _ => (nu_e_TRr) _) _ : ∀ y, (eosl_box_TRr y).Cl) x.rings, trivial, trivial, trivial, trivial⟩
def sh_TFa : Sh := (.cons sh_TPg (.cons hosl_TTh (.cons hosl_box_TRr .any)))
abbrev Dbox_TFa : Type := (Bx TFa)
def ebox_TFa : Dbox_TFa → V := (eBx e_TFa)
def dbox_TFa : V → Dbox_TFa := (dBx d_TFa)
def hbox_TFa : Sh := (.box (e_TFa (d_TFa .undef)))
def e_TFa_2 (x : TFa) : V :=
 V.cons (e_TPg x.p) (V.cons (eosl_TTh x.threads) (V.cons (eosl_box_TRr x.rings) (V.cons ((V.int .u64) x.now) (V.cons ((V.int .u64) x.reads) (V.cons (V.bool x.ended) (V.unit))))))
theorem nu_e_TFa_2 (x : TFa) : (e_TFa_2 x).Cl := ⟨(nu_e_TPg : ∀ y, (e_TPg y).Cl) x.p, (fun _ _ => (nu_e_TTh) _ : ∀ y, (eosl_TTh y).Cl) x.threads, (fun _ _ => (fun _ => (nu_e_TRr) _) _ : ∀ y, (eosl_box_TRr y).Cl) x.rings, trivial, trivial, trivial, trivial⟩
def sh_TFa_2 : Sh := (.cons sh_TPg (.cons hosl_TTh (.cons hosl_box_TRr .any)))
abbrev X_f1g : Type := TPg
abbrev R_f1g : Type := (Bx TFa) × Int
def J_f1g : BM Tryz.prog :=
 BS Tryz.prog Tryz.f13 44 [(1, 3), (17, 1), (27, 1), (36, 1), (37, 1), (38, 1)] [] [] [.E0 2] [hbox_TFa, .any] [] [con_f3c, con_f10, con_f2r] R_f1g [] fun y => [V.Cb (V.cons (ebox_TFa y.1) (V.cons ((V.int .i64) y.2) (V.unit)))]
def S_f1g : AO :=
 Aj Tryz.f13 1 0 X_f1g (fun x => [e_TPg x]) fun l => (d_TPg (at_ l 0))
structure X_f1g_5 where
 MM : (Sl TRg)
 HX : Int
 DS : Int
 Cn : TFa
def S_f1g_5 : AO :=
 Ad Tryz.f13 5 [(4, .any), (21, hsl_TRg), (22, .any), (23, .any)] [] [(.loc 19 0, sh_TFa_2)] X_f1g_5 (fun x => [(V.ptr (.loc 19 0) []), esl_TRg x.MM, (V.int .i64) x.HX, (V.int .i64) x.DS, e_TFa_2 x.Cn]) fun l => ⟨dsl_TRg (at_ l 1), dI (at_ l 2), dI (at_ l 3), d_TFa (at_ l 4)⟩
def tt_f1g_5 (D_f1g_5 : AU X_f1g_5 R_f1g) (x : X_f1g_5) : TT Tryz.prog R_f1g :=
 (.ite (Bq x.DS x.HX)
 (.need (A6 x.DS x.MM.n) <|
 (.call con_f2r (x.MM.get (Int.toNat x.DS)) fun (y2 : R_f2r) =>
 (.need (true && (room (x.Cn.rings.n + 1) 8)) <|
 (.AM S_f1g_5 D_f1g_5 (X_f1g_5.mk x.MM x.HX (IntKind.i64.wrap (x.DS + 1)) (TFa.mk x.Cn.p x.Cn.threads (Sl.mk (cond (Nat.beq 1 0) x.Cn.rings.nil false) (x.Cn.rings.n + 1) (fun i3 => (Bx.mk (cond (Nat.blt i3 x.Cn.rings.n) (x.Cn.rings.get i3).nil y2.fst.nil) (TRr.mk (TRc.mk (cond (Nat.blt i3 x.Cn.rings.n) (x.Cn.rings.get i3).x.AA.tail y2.fst.x.AA.tail) (Sl.mk (cond (Nat.blt i3 x.Cn.rings.n) (x.Cn.rings.get i3).x.AA.AD.nil y2.fst.x.AA.AD.nil) (cond (Nat.blt i3 x.Cn.rings.n) (x.Cn.rings.get i3).x.AA.AD.n y2.fst.x.AA.AD.n) (fun i4 => (cond (Nat.blt i3 x.Cn.rings.n) ((x.Cn.rings.get i3).x.AA.AD.get i4) (y2.fst.x.AA.AD.get i4))))) (Bx.mk (cond (Nat.blt i3 x.Cn.rings.n) (x.Cn.rings.get i3).x.s.nil y2.fst.x.s.nil) (TSs.mk (Sl.mk (cond (Nat.blt i3 x.Cn.rings.n) (x.Cn.rings.get i3).x.s.x.l.nil y2.fst.x.s.x.l.nil) (cond (Nat.blt i3 x.Cn.rings.n) (x.Cn.rings.get i3).x.s.x.l.n y2.fst.x.s.x.l.n) (fun i4 => (TSo.mk (cond (Nat.blt i3 x.Cn.rings.n) ((x.Cn.rings.get i3).x.s.x.l.get i4).AP (y2.fst.x.s.x.l.get i4).AP) (cond (Nat.blt i3 x.Cn.rings.n) ((x.Cn.rings.get i3).x.s.x.l.get i4).Value (y2.fst.x.s.x.l.get i4).Value) (cond (Nat.blt i3 x.Cn.rings.n) ((x.Cn.rings.get i3).x.s.x.l.get i4).Left (y2.fst.x.s.x.l.get i4).Left)))) (cond (Nat.blt i3 x.Cn.rings.n) (x.Cn.rings.get i3).x.s.x.AX y2.fst.x.s.x.AX))) (cond (Nat.blt i3 x.Cn.rings.n) (x.Cn.rings.get i3).x.most y2.fst.x.most) (cond (Nat.blt i3 x.Cn.rings.n) (x.Cn.rings.get i3).x.closed y2.fst.x.closed))))) x.Cn.now x.Cn.reads x.Cn.ended))))))
 (.ret ((Bx.mk false x.Cn), 0)))
theorem sd_f1g_5 (D_f1g_5 : AU X_f1g_5 R_f1g) (x : X_f1g_5) : (tt_f1g_5 D_f1g_5 x).AJ :=
 (TT.sI (TT.sN (TT.sC fun _ => (TT.sN TT.sJ))) TT.sR)
def D_f1g_5 : AU X_f1g_5 R_f1g := AU.loop tt_f1g_5
theorem ok_f1g_5 : AY J_f1g S_f1g_5 D_f1g_5 :=
 A8 fun D_f1g_5 h_5 => lk mxk (lbc h_5 rfl lbn) (sd_f1g_5 D_f1g_5)
def tt_f1g (x : X_f1g) : TT Tryz.prog R_f1g :=
 (.call con_f3c x fun (y1 : R_f3c) =>
 (.ite (!y1)
 (.ret ((Bx.mk true (TFa.mk (TPg.mk (Sl.mk true 0 (fun _i2 => (TRg.mk 0 0 0))) (Sl.mk true 0 (fun _i2 => (Sl.mk true 0 (fun _i3 => (TIn.mk 0 0 0 0 0 0)))))) (Sl.mk true 0 (fun _i2 => (TTh.mk 0 0 0 0 0 (fun _i3 => (0 : Int)) (Sl.mk true 0 (fun _i3 => (0 : Int)))))) (Sl.mk true 0 (fun _i2 => (Bx.mk true (TRr.mk (TRc.mk 0 (Sl.mk true 0 (fun _i3 => (0 : Int)))) (Bx.mk true (TSs.mk (Sl.mk true 0 (fun _i3 => (TSo.mk 0 0 0))) 0)) 0 false)))) 0 0 false)), 1))
 (.call con_f10 x fun (y2 : R_f10) =>
 (.need ((((upto ((x.AB.n : Nat) : Int) (Int.toNat ((x.AB.n : Nat) : Int))) && (Bw 0 ((x.AB.n : Nat) : Int))) && (room (Int.toNat ((x.AB.n : Nat) : Int)) 128)) && (decide ((((x.AB.n : Nat) : Int) ≤ (9223372036854775807 : Int))))) <|
 (.AM S_f1g_5 D_f1g_5 (X_f1g_5.mk x.AF ((x.AF.n : Nat) : Int) 0 (TFa.mk y2 (Sl.mk false (Int.toNat ((x.AB.n : Nat) : Int)) (fun _i3 => (TTh.mk 0 0 0 0 0 (fun _i4 => (0 : Int)) (Sl.mk true 0 (fun _i4 => (0 : Int)))))) (Sl.mk true 0 (fun _i3 => (Bx.mk true (TRr.mk (TRc.mk 0 (Sl.mk true 0 (fun _i4 => (0 : Int)))) (Bx.mk true (TSs.mk (Sl.mk true 0 (fun _i4 => (TSo.mk 0 0 0))) 0)) 0 false)))) 0 0 false)))))))
theorem sd_f1g (x : X_f1g) : (tt_f1g x).AJ :=
 (TT.sC fun _ => (TT.sI TT.sR (TT.sC fun _ => (TT.sN TT.sJ))))
def D_f1g : AU X_f1g R_f1g := .of tt_f1g
def con_f1g : BE Tryz.prog :=
 B2 13 J_f1g S_f1g D_f1g 1 0 [sh_TPg] (lk mxk (lbc ok_f1g_5 rfl lbn) sd_f1g)
abbrev Dsl_TTh : Type := (Sl TTh)
def esl_TTh : Dsl_TTh → V := (MX none 14 e_TTh)
def dsl_TTh : V → Dsl_TTh := (L9 d_TTh)
def hsl_TTh : Sh := (.sl none 14 (e_TTh (d_TTh .undef)))
abbrev X_f1a : Type := Int × TFa
abbrev R_f1a : Type := Bool
abbrev RR_f1a : Type := Bool × TFa
abbrev p_f1a (y : RR_f1a) : TFa := y.2
abbrev w_f1a (x : X_f1a) : TFa := x.2
def J_f1a : BM Tryz.prog :=
 BS Tryz.prog Tryz.f77 20 [] [] [] [.back (.loc 16 0)] [.any] [sh_TFa] [] RR_f1a [] fun y => [V.bool y.1, e_TFa y.2]
def S_f1a : AO :=
 Aj Tryz.f77 2 1 X_f1a (fun x => [(V.ptr (.par 0) []), (V.int .i64) x.1, e_TFa x.2]) fun l => (dI (at_ l 1), d_TFa (at_ l 2))
def tt_f1a (x : X_f1a) : TT Tryz.prog RR_f1a :=
 (.ite (Bw 0 x.fst)
 (.need ((true && true) && (Nat.beq x.snd.threads.n x.snd.threads.n)) <|
 (.ret ((Bq x.fst ((x.snd.threads.n : Nat) : Int)), x.snd)))
 (.ret (false, x.snd)))
theorem sd_f1a (x : X_f1a) : (tt_f1a x).AJ :=
 (TT.sI (TT.sN TT.sR) TT.sR)
theorem roT_f1a (x : X_f1a) : TT.Ro p_f1a (w_f1a x) (tt_f1a x) :=
 (TT.rI (TT.rN (TT.rR rfl)) (TT.rR rfl))
def D_f1a : AU X_f1a R_f1a := .ro (.of tt_f1a) (fun y => (y.1)) (fun y x => (y, x.2)) fun x y h => congrArg (fun o => (y.1, o)) (roT_f1a x y h)
def con_f1a : BE Tryz.prog :=
 Di 77 J_f1a S_f1a (.of tt_f1a) D_f1a (fun y x => (y, x.2)) (fun y => V.bool y) 2 1 [.any, .any] (lk mxk lbn sd_f1a) (fun x => ⟨(nu_e_TFa : ∀ y, (e_TFa y).Cl) (x.2), trivial⟩)
abbrev X_f35 : Type := TIn × (Sl TIn)
abbrev R_f35 : Type := Bool
def J_f35 : BM Tryz.prog :=
 BS Tryz.prog Tryz.f151 19 [(2, 3)] [] [] [] [.any] [] [con_f3l, con_f3k] R_f35 [] fun y => [V.bool y]
def S_f35 : AO :=
 Aj Tryz.f151 2 0 X_f35 (fun x => [e_TIn x.1, (Ch esl_TIn) x.2]) fun l => (d_TIn (at_ l 0), (Ci dsl_TIn) (at_ l 1))
def tt_f35 (x : X_f35) : TT Tryz.prog R_f35 :=
 (.call con_f3k x.fst fun (y1 : R_f3k) =>
 (.ite (!y1)
 (.ret true)
 (.call con_f3l x.fst fun (y2 : R_f3l) =>
 (.ite y2
 (.ret (Bq (IntKind.u64.wrap ((x.snd.n : Nat) : Int)) x.fst.K))
 (.ret false)))))
theorem sd_f35 (x : X_f35) : (tt_f35 x).AJ :=
 (TT.sC fun _ => (TT.sI TT.sR (TT.sC fun _ => (TT.sI TT.sR TT.sR))))
def D_f35 : AU X_f35 R_f35 := .of tt_f35
def con_f35 : BE Tryz.prog :=
 B2 151 J_f35 S_f35 D_f35 2 0 [.any, .any] (lk mxk lbn sd_f35)
abbrev X_f5 : Type := (Sl TIn) × ((Sl TIn))
abbrev R_f5 : Type := Int
def J_f5 : BM Tryz.prog :=
 BS Tryz.prog Tryz.f180 19 [] [] [] [] [.any] [] [con_f35] R_f5 [] fun y => [(V.int .i64) y]
def S_f5 : AO :=
 Aj Tryz.f180 2 0 X_f5 (fun x => [esl_TIn x.1, (fun x : ((Sl TIn)) => V.fn 151 (V.cons ((Ch esl_TIn) x) (V.unit))) x.2]) fun l => (dsl_TIn (at_ l 0), (fun v => ((Ci dsl_TIn) (fd (fnc v) 0) : ((Sl TIn)))) (at_ l 1))
structure X_f5_2 where
 T0 : (Sl TIn)
 f_1 : ((Sl TIn))
 q_7 : Int
 Vl : Int
def S_f5_2 : AO :=
 Ad Tryz.f180 2 [(0, hsl_TIn), (1, .any), (7, .any), (8, .any)] [] [] X_f5_2 (fun x => [esl_TIn x.T0, (fun x : ((Sl TIn)) => V.fn 151 (V.cons ((Ch esl_TIn) x) (V.unit))) x.f_1, (V.int .i64) x.q_7, (V.int .i64) x.Vl]) fun l => ⟨dsl_TIn (at_ l 0), (fun v => ((Ci dsl_TIn) (fd (fnc v) 0) : ((Sl TIn)))) (at_ l 1), dI (at_ l 2), dI (at_ l 3)⟩
def tt_f5_2 (D_f5_2 : AU X_f5_2 R_f5) (x : X_f5_2) : TT Tryz.prog R_f5 :=
 (.ite (Bq x.Vl x.q_7)
 (.need (A6 x.Vl x.T0.n) <|
 (.call con_f35 ((x.T0.get (Int.toNat x.Vl)), x.f_1) fun (y2 : R_f35) =>
 (.ite y2
 (.ret x.Vl)
 (.AM S_f5_2 D_f5_2 (X_f5_2.mk x.T0 x.f_1 x.q_7 (IntKind.i64.wrap (x.Vl + 1)))))))
 (.ret (-(1 : Int))))
theorem sd_f5_2 (D_f5_2 : AU X_f5_2 R_f5) (x : X_f5_2) : (tt_f5_2 D_f5_2 x).AJ :=
 (TT.sI (TT.sN (TT.sC fun _ => (TT.sI TT.sR TT.sJ))) TT.sR)
def D_f5_2 : AU X_f5_2 R_f5 := AU.loop tt_f5_2
theorem ok_f5_2 : AY J_f5 S_f5_2 D_f5_2 :=
 A8 fun D_f5_2 h_2 => lk mxk (lbc h_2 rfl lbn) (sd_f5_2 D_f5_2)
def tt_f5 (x : X_f5) : TT Tryz.prog R_f5 :=
 (.AM S_f5_2 D_f5_2 (X_f5_2.mk x.fst x.snd ((x.fst.n : Nat) : Int) 0))
theorem sd_f5 (x : X_f5) : (tt_f5 x).AJ :=
 TT.sJ
def D_f5 : AU X_f5 R_f5 := .of tt_f5
def con_f5 : BE Tryz.prog :=
 B2 180 J_f5 S_f5 D_f5 2 0 [hsl_TIn, .any] (lk mxk (lbc ok_f5_2 rfl lbn) sd_f5)
abbrev X_fm : Type := (Sl TIn) × ((Sl TIn))
abbrev R_fm : Type := Bool
def J_fm : BM Tryz.prog :=
 BS Tryz.prog Tryz.f150 9 [(5, 1)] [] [] [] [.any] [] [con_f5] R_fm [] fun y => [V.bool y]
def S_fm : AO :=
 Aj Tryz.f150 2 0 X_fm (fun x => [esl_TIn x.1, (fun x : ((Sl TIn)) => V.fn 151 (V.cons ((Ch esl_TIn) x) (V.unit))) x.2]) fun l => (dsl_TIn (at_ l 0), (fun v => ((Ci dsl_TIn) (fd (fnc v) 0) : ((Sl TIn)))) (at_ l 1))
def tt_fm (x : X_fm) : TT Tryz.prog R_fm :=
 (.call con_f5 x fun (y1 : R_f5) =>
 (.ret (Bw 0 y1)))
theorem sd_fm (x : X_fm) : (tt_fm x).AJ :=
 (TT.sC fun _ => TT.sR)
def D_fm : AU X_fm R_fm := .of tt_fm
def con_fm : BE Tryz.prog :=
 B2 150 J_fm S_fm D_fm 2 0 [hsl_TIn, .any] (lk mxk lbn sd_fm)
abbrev X_f3r : Type := (Sl TIn)
abbrev R_f3r : Type := Bool
def J_f3r : BM Tryz.prog :=
 BS Tryz.prog Tryz.f100 10 [(1, 3)] [] [] [] [.any] [] [con_fm] R_f3r [] fun y => [V.bool y]
def S_f3r : AO :=
 Aj Tryz.f100 1 0 X_f3r (fun x => [esl_TIn x]) fun l => (dsl_TIn (at_ l 0))
def tt_f3r (x : X_f3r) : TT Tryz.prog R_f3r :=
 (.ite (Bq 256 ((x.n : Nat) : Int))
 (.ret false)
 (.call con_fm (x, x) fun (y1 : R_fm) =>
 (.ret (!y1))))
theorem sd_f3r (x : X_f3r) : (tt_f3r x).AJ :=
 (TT.sI TT.sR (TT.sC fun _ => TT.sR))
def D_f3r : AU X_f3r R_f3r := .of tt_f3r
def con_f3r : BE Tryz.prog :=
 B2 100 J_f3r S_f3r D_f3r 1 0 [hsl_TIn] (lk mxk lbn sd_f3r)
abbrev X_fv : Type := (Sl TIn) × TTh
abbrev R_fv : Type := Bool
def J_fv : BM Tryz.prog :=
 BS Tryz.prog Tryz.f58 88 [(3, 3), (62, 1)] [] [] [] [.any] [] [con_f3r] R_fv [] fun y => [V.bool y]
def S_fv : AO :=
 Aj Tryz.f58 2 0 X_fv (fun x => [esl_TIn x.1, e_TTh x.2]) fun l => (dsl_TIn (at_ l 0), d_TTh (at_ l 1))
structure X_fv_3 where
 CD : (Sl TIn)
 Eh : TTh
def S_fv_3 : AO :=
 Ad Tryz.f58 3 [(0, hsl_TIn), (3, .any)] [] [] X_fv_3 (fun x => [esl_TIn x.CD, (Ch e_TTh) x.Eh]) fun l => ⟨dsl_TIn (at_ l 0), (Ci d_TTh) (at_ l 1)⟩
structure X_fv_7 where
 CD : (Sl TIn)
 Eh : TTh
def S_fv_7 : AO :=
 Ad Tryz.f58 7 [(0, hsl_TIn), (3, .any)] [] [] X_fv_7 (fun x => [esl_TIn x.CD, (Ch e_TTh) x.Eh]) fun l => ⟨dsl_TIn (at_ l 0), (Ci d_TTh) (at_ l 1)⟩
def tt_fv_7 (x : X_fv_7) : TT Tryz.prog R_fv :=
 (.need (A6 x.Eh.At x.CD.n) <|
 (.need (A6 (IntKind.i64.wrap (x.Eh.Phase - 1)) 2) <|
 (.ite (AW (x.CD.get (Int.toNat x.Eh.At)).Op (cond (Nat.beq (Int.toNat (IntKind.i64.wrap (x.Eh.Phase - 1))) 0) (18 : Int) (19 : Int)))
 (.ite (AW (x.CD.get (Int.toNat x.Eh.At)).C x.Eh.Ring)
 (.ret (Bq x.Eh.AG 4611686018427387904))
 (.ret false))
 (.ret false))))
theorem sd_fv_7 (x : X_fv_7) : (tt_fv_7 x).AJ :=
 (TT.sN (TT.sN (TT.sI (TT.sI TT.sR TT.sR) TT.sR)))
def D_fv_7 : AU X_fv_7 R_fv := .of tt_fv_7
theorem ok_fv_7 : AY J_fv S_fv_7 D_fv_7 :=
 lk mxk lbn sd_fv_7
def tt_fv_3 (x : X_fv_3) : TT Tryz.prog R_fv :=
 (.ite (AW x.Eh.Phase 0)
 (.ite (AW x.Eh.Ring 0)
 (.ret (AW x.Eh.AG 0))
 (.ret false))
 (.ite (!(AW x.Eh.Status 0))
 (.ret false)
 (.ite (AW x.Eh.At ((x.CD.n : Nat) : Int))
 (.ret false)
 (.AM S_fv_7 D_fv_7 (X_fv_7.mk x.CD x.Eh)))))
theorem sd_fv_3 (x : X_fv_3) : (tt_fv_3 x).AJ :=
 (TT.sI (TT.sI TT.sR TT.sR) (TT.sI TT.sR (TT.sI TT.sR TT.sJ)))
def D_fv_3 : AU X_fv_3 R_fv := .of tt_fv_3
theorem ok_fv_3 : AY J_fv S_fv_3 D_fv_3 :=
 lk mxk (lbc ok_fv_7 rfl lbn) sd_fv_3
def tt_fv (x : X_fv) : TT Tryz.prog R_fv :=
 (.call con_f3r x.fst fun (y1 : R_f3r) =>
 (.ite (!y1)
 (.ret false)
 (.ite (Bq x.snd.At 0)
 (.ret false)
 (.ite (Bq ((x.fst.n : Nat) : Int) x.snd.At)
 (.ret false)
 (.ite (Bq x.snd.Status 0)
 (.ret false)
 (.ite (Bq 2 x.snd.Status)
 (.ret false)
 (.ite (Bq x.snd.Phase 0)
 (.ret false)
 (.ite (Bq 2 x.snd.Phase)
 (.ret false)
 (.AM S_fv_3 D_fv_3 (X_fv_3.mk x.fst x.snd))))))))))
theorem sd_fv (x : X_fv) : (tt_fv x).AJ :=
 (TT.sC fun _ => (TT.sI TT.sR (TT.sI TT.sR (TT.sI TT.sR (TT.sI TT.sR (TT.sI TT.sR (TT.sI TT.sR (TT.sI TT.sR TT.sJ))))))))
def D_fv : AU X_fv R_fv := .of tt_fv
def con_fv : BE Tryz.prog :=
 B2 58 J_fv S_fv D_fv 2 0 [hsl_TIn, sh_TTh] (lk mxk (lbc ok_fv_7 rfl (lbc ok_fv_3 rfl lbn)) sd_fv)
abbrev X_f42 : Type := Int
abbrev R_f42 : Type := Bool
def J_f42 : BM Tryz.prog :=
 BS Tryz.prog Tryz.f194 9 [] [] [] [] [.any] [] [] R_f42 [] fun y => [V.bool y]
def S_f42 : AO :=
 Aj Tryz.f194 1 0 X_f42 (fun x => [(V.int .i64) x]) fun l => (dI (at_ l 0))
def tt_f42 (x : X_f42) : TT Tryz.prog R_f42 :=
 (.ite (Bw 18 x)
 (.ret (Bw x 25))
 (.ret false))
theorem sd_f42 (x : X_f42) : (tt_f42 x).AJ :=
 (TT.sI TT.sR TT.sR)
def D_f42 : AU X_f42 R_f42 := .of tt_f42
def con_f42 : BE Tryz.prog :=
 B2 194 J_f42 S_f42 D_f42 1 0 [.any] (lk mxk lbn sd_f42)
abbrev X_f3e : Type := Int × Int
abbrev R_f3e : Type := Int
def J_f3e : BM Tryz.prog :=
 BS Tryz.prog Tryz.f202 10 [] [] [] [] [.any] [] [] R_f3e [] fun y => [(V.int .u64) y]
def S_f3e : AO :=
 Aj Tryz.f202 2 0 X_f3e (fun x => [(V.int .u64) x.1, (V.int .u64) x.2]) fun l => (dI (at_ l 0), dI (at_ l 1))
def tt_f3e (x : X_f3e) : TT Tryz.prog R_f3e :=
 (.ite (AW x.snd 0)
 (.ret 0)
 (.need (!(AW x.snd 0)) <|
 (.ret (IntKind.u64.wrap (Int.tdiv x.fst x.snd)))))
theorem sd_f3e (x : X_f3e) : (tt_f3e x).AJ :=
 (TT.sI TT.sR (TT.sN TT.sR))
def D_f3e : AU X_f3e R_f3e := .of tt_f3e
def con_f3e : BE Tryz.prog :=
 B2 202 J_f3e S_f3e D_f3e 2 0 [.any, .any] (lk mxk lbn sd_f3e)
abbrev X_f47 : Type := Int × Int
abbrev R_f47 : Type := Int
def J_f47 : BM Tryz.prog :=
 BS Tryz.prog Tryz.f203 10 [] [] [] [] [.any] [] [] R_f47 [] fun y => [(V.int .u64) y]
def S_f47 : AO :=
 Aj Tryz.f203 2 0 X_f47 (fun x => [(V.int .u64) x.1, (V.int .u64) x.2]) fun l => (dI (at_ l 0), dI (at_ l 1))
def tt_f47 (x : X_f47) : TT Tryz.prog R_f47 :=
 (.ite (AW x.snd 0)
 (.ret 0)
 (.need (!(AW x.snd 0)) <|
 (.ret (Int.tmod x.fst x.snd))))
theorem sd_f47 (x : X_f47) : (tt_f47 x).AJ :=
 (TT.sI TT.sR (TT.sN TT.sR))
def D_f47 : AU X_f47 R_f47 := .of tt_f47
def con_f47 : BE Tryz.prog :=
 B2 203 J_f47 S_f47 D_f47 2 0 [.any, .any] (lk mxk lbn sd_f47)
abbrev X_f4d : Type := Bool
abbrev R_f4d : Type := Int
def J_f4d : BM Tryz.prog :=
 BS Tryz.prog Tryz.f204 4 [] [] [] [] [.any] [] [] R_f4d [] fun y => [(V.int .u64) y]
def S_f4d : AO :=
 Aj Tryz.f204 1 0 X_f4d (fun x => [V.bool x]) fun l => (dB (at_ l 0))
def tt_f4d (x : X_f4d) : TT Tryz.prog R_f4d :=
 (.ite x
 (.ret 1)
 (.ret 0))
theorem sd_f4d (x : X_f4d) : (tt_f4d x).AJ :=
 (TT.sI TT.sR TT.sR)
def D_f4d : AU X_f4d R_f4d := .of tt_f4d
def con_f4d : BE Tryz.prog :=
 B2 204 J_f4d S_f4d D_f4d 1 0 [.any] (lk mxk lbn sd_f4d)
abbrev X_f4e : Type := Int × Int × Int
abbrev R_f4e : Type := Int × Bool
def J_f4e : BM Tryz.prog :=
 BS Tryz.prog Tryz.f201 73 [] [] [] [] [.any, .any] [] [con_f4d, con_f3e, con_f47] R_f4e [] fun y => [V.Cb (V.cons ((V.int .u64) y.1) (V.cons (V.bool y.2) (V.unit)))]
def S_f4e : AO :=
 Aj Tryz.f201 3 0 X_f4e (fun x => [(V.int .i64) x.1, (V.int .u64) x.2.1, (V.int .u64) x.2.2]) fun l => (dI (at_ l 0), dI (at_ l 1), dI (at_ l 2))
def tt_f4e (x : X_f4e) : TT Tryz.prog R_f4e :=
 (.ite (AW x.fst 3)
 (.ret ((IntKind.u64.wrap (x.snd.fst + x.snd.snd)), true))
 (.ite (AW x.fst 4)
 (.ret ((IntKind.u64.wrap (x.snd.fst - x.snd.snd)), true))
 (.ite (AW x.fst 5)
 (.ret ((IntKind.u64.wrap (x.snd.fst * x.snd.snd)), true))
 (.ite (AW x.fst 6)
 (.call con_f3e x.snd fun (y1 : R_f3e) =>
 (.ret (y1, true)))
 (.ite (AW x.fst 7)
 (.call con_f47 x.snd fun (y1 : R_f47) =>
 (.ret (y1, true)))
 (.ite (AW x.fst 8)
 (.ret ((Vm.bits .and IntKind.u64 x.snd.fst x.snd.snd), true))
 (.ite (AW x.fst 9)
 (.ret ((Vm.bits .or IntKind.u64 x.snd.fst x.snd.snd), true))
 (.ite (AW x.fst 10)
 (.ret ((Vm.bits .xor IntKind.u64 x.snd.fst x.snd.snd), true))
 (.ite (AW x.fst 11)
 (.ret ((shl IntKind.u64 x.snd.fst (Vm.bits .and IntKind.u64 x.snd.snd 63)), true))
 (.ite (AW x.fst 12)
 (.ret ((shr IntKind.u64 x.snd.fst (Vm.bits .and IntKind.u64 x.snd.snd 63)), true))
 (.ite (AW x.fst 13)
 (.call con_f4d (Bq x.snd.fst x.snd.snd) fun (y1 : R_f4d) =>
 (.ret (y1, true)))
 (.ite (AW x.fst 14)
 (.call con_f4d (AW x.snd.fst x.snd.snd) fun (y1 : R_f4d) =>
 (.ret (y1, true)))
 (.ret (0, false))))))))))))))
theorem sd_f4e (x : X_f4e) : (tt_f4e x).AJ :=
 (TT.sI TT.sR (TT.sI TT.sR (TT.sI TT.sR (TT.sI (TT.sC fun _ => TT.sR) (TT.sI (TT.sC fun _ => TT.sR) (TT.sI TT.sR (TT.sI TT.sR (TT.sI TT.sR (TT.sI TT.sR (TT.sI TT.sR (TT.sI (TT.sC fun _ => TT.sR) (TT.sI (TT.sC fun _ => TT.sR) TT.sR))))))))))))
def D_f4e : AU X_f4e R_f4e := .of tt_f4e
def con_f4e : BE Tryz.prog :=
 B2 201 J_f4e S_f4e D_f4e 3 0 [.any, .any, .any] (lk mxk lbn sd_f4e)
abbrev PQ : Type := (Sl Int)
def Gd : PQ → V := (MX (some 36) 1 (V.int .u64))
def JA : V → PQ := (L9 dI)
def Gb : Sh := (.sl (some 36) 1 (V.int .u64 0))
def e_TTh_6 (x : TTh) : V :=
 V.cons ((V.int .i64) x.At) (V.cons ((V.int .i64) x.Phase) (V.cons ((V.int .i64) x.Ring) (V.cons ((V.int .i64) x.Status) (V.cons ((V.int .u64) x.AG) (V.cons ((R5 1 8 (V.int .u64)) x.Ae) (V.cons (Gd x.Seen) (V.unit)))))))
theorem nu_e_TTh_6 (x : TTh) : (e_TTh_6 x).Cl := ⟨trivial, trivial, trivial, trivial, trivial, (fun _ _ => trivial : ∀ y, ((R5 1 8 (V.int .u64)) y).Cl) x.Ae, trivial, trivial⟩
def sh_TTh_6 : Sh := (.cons .any (.cons .any (.cons .any (.cons .any (.cons .any (.cons .any (.cons Gb .any)))))))
abbrev X_f36 : Type := TIn × TTh
abbrev R_f36 : Type := TTh
def J_f36 : BM Tryz.prog :=
 BS Tryz.prog Tryz.f195 90 [(2, 3), (17, 1)] [] [] [] [] [sh_TTh_6] [con_f4e] R_f36 [] fun y => [V.Cb (V.unit), e_TTh_6 y]
def S_f36 : AO :=
 Aj Tryz.f195 2 1 X_f36 (fun x => [e_TIn x.1, (V.ptr (.par 0) []), e_TTh_6 x.2]) fun l => (d_TIn (at_ l 0), d_TTh (at_ l 2))
def tt_f36 (x : X_f36) : TT Tryz.prog R_f36 :=
 (.ite (AW x.fst.Op 1)
 (.need (A6 x.fst.A 8) <|
 (.ret (TTh.mk (IntKind.i64.wrap (x.snd.At + 1)) x.snd.Phase x.snd.Ring x.snd.Status x.snd.AG (fun i1 => (cond (Nat.beq i1 (Int.toNat x.fst.A)) x.fst.K (x.snd.Ae i1))) x.snd.Seen)))
 (.ite (AW x.fst.Op 2)
 (.need (A6 x.fst.B 8) <|
 (.need (A6 x.fst.A 8) <|
 (.ret (TTh.mk (IntKind.i64.wrap (x.snd.At + 1)) x.snd.Phase x.snd.Ring x.snd.Status x.snd.AG (fun i1 => (cond (Nat.beq i1 (Int.toNat x.fst.A)) (x.snd.Ae (Int.toNat x.fst.B)) (x.snd.Ae i1))) x.snd.Seen))))
 (.ite (AW x.fst.Op 15)
 (.ret (TTh.mk (IntKind.i64.wrap x.fst.K) x.snd.Phase x.snd.Ring x.snd.Status x.snd.AG x.snd.Ae x.snd.Seen))
 (.ite (AW x.fst.Op 16)
 (.need (A6 x.fst.A 8) <|
 (.ite ((AW (x.snd.Ae (Int.toNat x.fst.A)) 0) == (AW x.fst.Op 16))
 (.ret (TTh.mk (IntKind.i64.wrap x.fst.K) x.snd.Phase x.snd.Ring x.snd.Status x.snd.AG x.snd.Ae x.snd.Seen))
 (.ret (TTh.mk (IntKind.i64.wrap (x.snd.At + 1)) x.snd.Phase x.snd.Ring x.snd.Status x.snd.AG x.snd.Ae x.snd.Seen))))
 (.ite (AW x.fst.Op 17)
 (.need (A6 x.fst.A 8) <|
 (.ite ((AW (x.snd.Ae (Int.toNat x.fst.A)) 0) == (AW x.fst.Op 16))
 (.ret (TTh.mk (IntKind.i64.wrap x.fst.K) x.snd.Phase x.snd.Ring x.snd.Status x.snd.AG x.snd.Ae x.snd.Seen))
 (.ret (TTh.mk (IntKind.i64.wrap (x.snd.At + 1)) x.snd.Phase x.snd.Ring x.snd.Status x.snd.AG x.snd.Ae x.snd.Seen))))
 (.need (A6 x.fst.B 8) <|
 (.need (A6 x.fst.C 8) <|
 (.call con_f4e (x.fst.Op, ((x.snd.Ae (Int.toNat x.fst.B)), (x.snd.Ae (Int.toNat x.fst.C)))) fun (y1 : R_f4e) =>
 (.need (A6 x.fst.A 8) <|
 (.ret (TTh.mk (IntKind.i64.wrap (x.snd.At + 1)) x.snd.Phase x.snd.Ring x.snd.Status x.snd.AG (fun i2 => (cond (Nat.beq i2 (Int.toNat x.fst.A)) y1.fst (x.snd.Ae i2))) x.snd.Seen)))))))))))
theorem sd_f36 (x : X_f36) : (tt_f36 x).AJ :=
 (TT.sI (TT.sN TT.sR) (TT.sI (TT.sN (TT.sN TT.sR)) (TT.sI TT.sR (TT.sI (TT.sN (TT.sI TT.sR TT.sR)) (TT.sI (TT.sN (TT.sI TT.sR TT.sR)) (TT.sN (TT.sN (TT.sC fun _ => (TT.sN TT.sR)))))))))
def D_f36 : AU X_f36 R_f36 := .of tt_f36
def con_f36 : BE Tryz.prog :=
 B2 195 J_f36 S_f36 D_f36 2 1 [.any, .any] (lk mxk lbn sd_f36)
structure TAk where
 Kind : Int
 Ring : Int
 Mode : Int
 Reader : Int
 AG : Int
 Value : Int
def d_TAk (v : V) : TAk :=
 ⟨dI (fd v 0), dI (fd v 1), dI (fd v 2), dI (fd v 3), dI (fd v 4), dI (fd v 5)⟩
def e_TAk (x : TAk) : V :=
 V.cons ((V.int .i64) x.Kind) (V.cons ((V.int .i64) x.Ring) (V.cons ((V.int .i64) x.Mode) (V.cons ((V.int .i64) x.Reader) (V.cons ((V.int .u64) x.AG) (V.cons ((V.int .u64) x.Value) (V.unit))))))
theorem nu_e_TAk (x : TAk) : (e_TAk x).Cl := ⟨trivial, trivial, trivial, trivial, trivial, trivial, trivial⟩
abbrev X_f3s : Type := TIn × TTh
abbrev R_f3s : Type := TAk
def J_f3s : BM Tryz.prog :=
 BS Tryz.prog Tryz.f197 52 [(2, 3), (3, 3)] [] [] [] [.any] [] [] R_f3s [] fun y => [e_TAk y]
def S_f3s : AO :=
 Aj Tryz.f197 2 0 X_f3s (fun x => [e_TIn x.1, e_TTh x.2]) fun l => (d_TIn (at_ l 0), d_TTh (at_ l 1))
def tt_f3s (x : X_f3s) : TT Tryz.prog R_f3s :=
 (.ite (AW x.fst.Op 18)
 (.need (A6 x.fst.A 8) <|
 (.ret (TAk.mk 1 x.fst.C x.fst.D 0 0 (x.snd.Ae (Int.toNat x.fst.A)))))
 (.ite (AW x.fst.Op 19)
 (.ret (TAk.mk 2 x.fst.C x.fst.D (IntKind.i64.wrap x.fst.K) 0 0))
 (.ite (AW x.fst.Op 20)
 (.ret (TAk.mk 3 x.fst.C 0 0 0 0))
 (.ite (AW x.fst.Op 21)
 (.ret (TAk.mk 4 0 0 0 0 0))
 (.ite (AW x.fst.Op 22)
 (.ret (TAk.mk 5 0 0 0 0 0))
 (.ite (AW x.fst.Op 23)
 (.ret (TAk.mk 6 0 0 0 0 0))
 (.ite (AW x.fst.Op 24)
 (.need (A6 x.fst.A 8) <|
 (.ret (TAk.mk 7 0 0 0 0 (x.snd.Ae (Int.toNat x.fst.A)))))
 (.ret (TAk.mk 8 0 0 0 0 0)))))))))
theorem sd_f3s (x : X_f3s) : (tt_f3s x).AJ :=
 (TT.sI (TT.sN TT.sR) (TT.sI TT.sR (TT.sI TT.sR (TT.sI TT.sR (TT.sI TT.sR (TT.sI TT.sR (TT.sI (TT.sN TT.sR) TT.sR)))))))
def D_f3s : AU X_f3s R_f3s := .of tt_f3s
def con_f3s : BE Tryz.prog :=
 B2 197 J_f3s S_f3s D_f3s 2 0 [.any, sh_TTh] (lk mxk lbn sd_f3s)
abbrev X_f8 : Type := (Sl TIn) × TTh
abbrev R_f8 : Type := TTh × TAk
def J_f8 : BM Tryz.prog :=
 BS Tryz.prog Tryz.f172 97 [(10, 1), (16, 1), (21, 1), (35, 1), (40, 1), (77, 1), (87, 1), (89, 1), (90, 1)] [] [] [] [sh_TTh_6, .any] [] [con_f3j, con_f42, con_f3s, con_f36] R_f8 [] fun y => [V.Cb (V.cons (e_TTh_6 y.1) (V.cons (e_TAk y.2) (V.unit)))]
def S_f8 : AO :=
 Aj Tryz.f172 2 0 X_f8 (fun x => [esl_TIn x.1, e_TTh_6 x.2]) fun l => (dsl_TIn (at_ l 0), d_TTh (at_ l 1))
structure X_f8_8 where
 CD : (Sl TIn)
 LC : Int
 BC : TTh
 Cc : TTh
 BI : TAk
def S_f8_8 : AO :=
 Ad Tryz.f172 8 [(0, hsl_TIn), (3, .any), (4, .any), (5, .any), (48, .any)] [] [(.loc 3 0, sh_TTh_6), (.loc 4 0, sh_TTh_6), (.loc 5 0, .any)] X_f8_8 (fun x => [esl_TIn x.CD, (V.ptr (.loc 3 0) []), (V.ptr (.loc 4 0) []), (V.ptr (.loc 5 0) []), (V.int .i64) x.LC, e_TTh_6 x.BC, e_TTh_6 x.Cc, e_TAk x.BI]) fun l => ⟨dsl_TIn (at_ l 0), dI (at_ l 4), d_TTh (at_ l 5), d_TTh (at_ l 6), d_TAk (at_ l 7)⟩
structure X_f8_10 where
 CD : (Sl TIn)
 LC : Int
 BC : TTh
 Cc : TTh
 BI : TAk
def S_f8_10 : AO :=
 Ad Tryz.f172 10 [(0, hsl_TIn), (3, .any), (4, .any), (5, .any), (48, .any)] [] [(.loc 3 0, sh_TTh_6), (.loc 4 0, sh_TTh_6), (.loc 5 0, .any)] X_f8_10 (fun x => [esl_TIn x.CD, (V.ptr (.loc 3 0) []), (V.ptr (.loc 4 0) []), (V.ptr (.loc 5 0) []), (V.int .i64) x.LC, e_TTh_6 x.BC, e_TTh_6 x.Cc, e_TAk x.BI]) fun l => ⟨dsl_TIn (at_ l 0), dI (at_ l 4), d_TTh (at_ l 5), d_TTh (at_ l 6), d_TAk (at_ l 7)⟩
structure X_f8_11 where
 CD : (Sl TIn)
 LC : Int
 BC : TTh
 Cc : TTh
 BI : TAk
def S_f8_11 : AO :=
 Ad Tryz.f172 11 [(0, hsl_TIn), (3, .any), (4, .any), (5, .any), (48, .any)] [] [(.loc 3 0, sh_TTh_6), (.loc 4 0, sh_TTh_6), (.loc 5 0, .any)] X_f8_11 (fun x => [esl_TIn x.CD, (V.ptr (.loc 3 0) []), (V.ptr (.loc 4 0) []), (V.ptr (.loc 5 0) []), (V.int .i64) x.LC, e_TTh_6 x.BC, e_TTh_6 x.Cc, e_TAk x.BI]) fun l => ⟨dsl_TIn (at_ l 0), dI (at_ l 4), d_TTh (at_ l 5), d_TTh (at_ l 6), d_TAk (at_ l 7)⟩
structure X_f8_12 where
 CD : (Sl TIn)
 BC : TTh
 Cc : TTh
 BI : TAk
def S_f8_12 : AO :=
 Ad Tryz.f172 12 [(0, hsl_TIn), (3, .any), (4, .any), (5, .any)] [] [(.loc 3 0, sh_TTh_6), (.loc 4 0, sh_TTh_6), (.loc 5 0, .any)] X_f8_12 (fun x => [esl_TIn x.CD, (V.ptr (.loc 3 0) []), (V.ptr (.loc 4 0) []), (V.ptr (.loc 5 0) []), e_TTh_6 x.BC, e_TTh_6 x.Cc, e_TAk x.BI]) fun l => ⟨dsl_TIn (at_ l 0), d_TTh (at_ l 4), d_TTh (at_ l 5), d_TAk (at_ l 6)⟩
def tt_f8_12 (x : X_f8_12) : TT Tryz.prog R_f8 :=
 (.ite (AW x.BC.At ((x.CD.n : Nat) : Int))
 (.ret (x.BC, (TAk.mk 8 0 0 0 0 0)))
 (.need (A6 x.BC.At x.CD.n) <|
 (.call con_f3j (x.CD.get (Int.toNat x.BC.At)).Op fun (y1 : R_f3j) =>
 (.ite y1
 (.ret (x.BC, (TAk.mk 9 0 0 0 0 0)))
 (.need (A6 x.BC.At x.CD.n) <|
 (.call con_f3s ((x.CD.get (Int.toNat x.BC.At)), x.BC) fun (y2 : R_f3s) =>
 (.ret (x.BC, y2))))))))
theorem sd_f8_12 (x : X_f8_12) : (tt_f8_12 x).AJ :=
 (TT.sI TT.sR (TT.sN (TT.sC fun _ => (TT.sI TT.sR (TT.sN (TT.sC fun _ => TT.sR))))))
def D_f8_12 : AU X_f8_12 R_f8 := .of tt_f8_12
theorem ok_f8_12 : AY J_f8 S_f8_12 D_f8_12 :=
 lk mxk lbn sd_f8_12
def tt_f8_11 (D_f8_8 : AU X_f8_8 R_f8) (x : X_f8_11) : TT Tryz.prog R_f8 :=
 (.AM S_f8_8 D_f8_8 (X_f8_8.mk x.CD (IntKind.i64.wrap (x.LC + 1)) x.BC x.Cc x.BI))
theorem sd_f8_11 (D_f8_8 : AU X_f8_8 R_f8) (x : X_f8_11) : (tt_f8_11 D_f8_8 x).AJ :=
 TT.sJ
def D_f8_11 (D_f8_8 : AU X_f8_8 R_f8) : AU X_f8_11 R_f8 := .of (tt_f8_11 D_f8_8)
theorem ok_f8_11 (D_f8_8 : AU X_f8_8 R_f8) (h_8 : AY J_f8 S_f8_8 D_f8_8) : AY J_f8 S_f8_11 (D_f8_11 D_f8_8) :=
 lk mxk (lbc h_8 rfl (lbc ok_f8_12 rfl lbn)) (sd_f8_11 D_f8_8)
def tt_f8_10 (D_f8_8 : AU X_f8_8 R_f8) (x : X_f8_10) : TT Tryz.prog R_f8 :=
 (.need (A6 x.BC.At x.CD.n) <|
 (.call con_f36 ((x.CD.get (Int.toNat x.BC.At)), x.BC) fun (y2 : R_f36) =>
 (.AM S_f8_11 (D_f8_11 D_f8_8) (X_f8_11.mk x.CD x.LC y2 x.Cc x.BI))))
theorem sd_f8_10 (D_f8_8 : AU X_f8_8 R_f8) (x : X_f8_10) : (tt_f8_10 D_f8_8 x).AJ :=
 (TT.sN (TT.sC fun _ => TT.sJ))
def D_f8_10 (D_f8_8 : AU X_f8_8 R_f8) : AU X_f8_10 R_f8 := .of (tt_f8_10 D_f8_8)
theorem ok_f8_10 (D_f8_8 : AU X_f8_8 R_f8) (h_8 : AY J_f8 S_f8_8 D_f8_8) : AY J_f8 S_f8_10 (D_f8_10 D_f8_8) :=
 lk mxk (lbc h_8 rfl (lbc ok_f8_12 rfl (lbc (ok_f8_11 D_f8_8 h_8) rfl lbn))) (sd_f8_10 D_f8_8)
def tt_f8_8 (D_f8_8 : AU X_f8_8 R_f8) (x : X_f8_8) : TT Tryz.prog R_f8 :=
 (.ite (Bq x.LC 256)
 (.ite (AW x.BC.At ((x.CD.n : Nat) : Int))
 (.AM S_f8_12 D_f8_12 (X_f8_12.mk x.CD x.BC x.Cc x.BI))
 (.need (A6 x.BC.At x.CD.n) <|
 (.call con_f42 (x.CD.get (Int.toNat x.BC.At)).Op fun (y2 : R_f42) =>
 (.ite y2
 (.AM S_f8_12 D_f8_12 (X_f8_12.mk x.CD x.BC x.Cc x.BI))
 (.AM S_f8_10 (D_f8_10 D_f8_8) (X_f8_10.mk x.CD x.LC x.BC x.Cc x.BI))))))
 (.AM S_f8_12 D_f8_12 (X_f8_12.mk x.CD x.BC x.Cc x.BI)))
theorem sd_f8_8 (D_f8_8 : AU X_f8_8 R_f8) (x : X_f8_8) : (tt_f8_8 D_f8_8 x).AJ :=
 (TT.sI (TT.sI TT.sJ (TT.sN (TT.sC fun _ => (TT.sI TT.sJ TT.sJ)))) TT.sJ)
def D_f8_8 : AU X_f8_8 R_f8 := AU.loop tt_f8_8
theorem ok_f8_8 : AY J_f8 S_f8_8 D_f8_8 :=
 A8 fun D_f8_8 h_8 => lk mxk (lbc h_8 rfl (lbc ok_f8_12 rfl (lbc (ok_f8_11 D_f8_8 h_8) rfl (lbc (ok_f8_10 D_f8_8 h_8) rfl lbn)))) (sd_f8_8 D_f8_8)
def tt_f8 (x : X_f8) : TT Tryz.prog R_f8 :=
 (.ite (!(AW x.snd.Status 0))
 (.ret (x.snd, (TAk.mk 0 0 0 0 0 0)))
 (.ite (AW x.snd.Phase 1)
 (.need (A6 x.snd.At x.fst.n) <|
 (.need (A6 (x.fst.get (Int.toNat x.snd.At)).A 8) <|
 (.ret (x.snd, (TAk.mk 10 x.snd.Ring 0 0 x.snd.AG (x.snd.Ae (Int.toNat (x.fst.get (Int.toNat x.snd.At)).A)))))))
 (.ite (AW x.snd.Phase 2)
 (.need (A6 x.snd.At x.fst.n) <|
 (.ret (x.snd, (TAk.mk 11 x.snd.Ring 0 (IntKind.i64.wrap (x.fst.get (Int.toNat x.snd.At)).K) x.snd.AG 0))))
 (.AM S_f8_8 D_f8_8 (X_f8_8.mk x.fst 0 x.snd (TTh.mk 0 0 0 0 0 (fun _i1 => (0 : Int)) (Sl.mk true 0 (fun _i1 => (0 : Int)))) (TAk.mk 0 0 0 0 0 0))))))
theorem sd_f8 (x : X_f8) : (tt_f8 x).AJ :=
 (TT.sI TT.sR (TT.sI (TT.sN (TT.sN TT.sR)) (TT.sI (TT.sN TT.sR) TT.sJ)))
def D_f8 : AU X_f8 R_f8 := .of tt_f8
def con_f8 : BE Tryz.prog :=
 B2 172 J_f8 S_f8 D_f8 2 0 [hsl_TIn, sh_TTh_6] (lk mxk (lbc ok_f8_12 rfl (lbc ok_f8_8 rfl lbn)) sd_f8)
abbrev X_f1w : Type := (Sl Int)
abbrev R_f1w : Type := (Sl Int)
def J_f1w : BM Tryz.prog :=
 BS Tryz.prog Tryz.f47 8 [(6, 1)] [] [] [.E0 2] [Gb] [] [] R_f1w [] fun y => [Gd y]
def S_f1w : AO :=
 Aj Tryz.f47 1 0 X_f1w (fun x => [BG x]) fun l => (Bc (at_ l 0))
def tt_f1w (x : X_f1w) : TT Tryz.prog R_f1w :=
 (.ite x.nil
 (.ret (Sl.mk true 0 (fun _i1 => (0 : Int))))
 (.need (true && (room ((0 : Nat) + x.n) 8)) <|
 (.ret (Sl.mk (cond (Nat.beq x.n 0) false false) ((0 : Nat) + x.n) (fun i1 => (cond (Nat.blt i1 0) (0 : Int) (x.get (i1 - 0))))))))
theorem sd_f1w (x : X_f1w) : (tt_f1w x).AJ :=
 (TT.sI TT.sR (TT.sN TT.sR))
def D_f1w : AU X_f1w R_f1w := .of tt_f1w
def con_f1w : BE Tryz.prog :=
 B2 47 J_f1w S_f1w D_f1w 1 0 [BP] (lk mxk lbn sd_f1w)
abbrev X_f38 : Type := (Sl TIn) × TTh
abbrev R_f38 : Type := TTh × TAk × Int
def J_f38 : BM Tryz.prog :=
 BS Tryz.prog Tryz.f133 26 [(18, 1), (19, 1), (20, 1), (24, 1)] [] [] [] [sh_TTh_6, .any, .any] [] [con_f1w, con_fv, con_f8] R_f38 [] fun y => [V.Cb (V.cons (e_TTh_6 y.1) (V.cons (e_TAk y.2.1) (V.cons ((V.int .i64) y.2.2) (V.unit))))]
def S_f38 : AO :=
 Aj Tryz.f133 2 0 X_f38 (fun x => [esl_TIn x.1, e_TTh x.2]) fun l => (dsl_TIn (at_ l 0), d_TTh (at_ l 1))
def tt_f38 (x : X_f38) : TT Tryz.prog R_f38 :=
 (.call con_fv x fun (y1 : R_fv) =>
 (.ite (!y1)
 (.ret ((TTh.mk 0 0 0 0 0 (fun _i2 => (0 : Int)) (Sl.mk true 0 (fun _i2 => (0 : Int)))), ((TAk.mk 0 0 0 0 0 0), 1)))
 (.call con_f1w x.snd.Seen fun (y2 : R_f1w) =>
 (.call con_f8 (x.fst, (TTh.mk x.snd.At x.snd.Phase x.snd.Ring x.snd.Status x.snd.AG x.snd.Ae y2)) fun (y3 : R_f8) =>
 (.ret (y3.fst, (y3.snd, 0)))))))
theorem sd_f38 (x : X_f38) : (tt_f38 x).AJ :=
 (TT.sC fun _ => (TT.sI TT.sR (TT.sC fun _ => (TT.sC fun _ => TT.sR))))
def D_f38 : AU X_f38 R_f38 := .of tt_f38
def con_f38 : BE Tryz.prog :=
 B2 133 J_f38 S_f38 D_f38 2 0 [hsl_TIn, sh_TTh] (lk mxk lbn sd_f38)
abbrev X_f1b : Type := Int × TFa
abbrev R_f1b : Type := TAk
abbrev RR_f1b : Type := TAk × TFa
abbrev p_f1b (y : RR_f1b) : TFa := y.2
abbrev w_f1b (x : X_f1b) : TFa := x.2
def J_f1b : BM Tryz.prog :=
 BS Tryz.prog Tryz.f78 29 [(8, 1)] [(2, [.back (.loc 20 0)])] [(1, [.Ia (.par 0) [.CI 1 2] 20])] [.back (.loc 20 0)] [.any] [sh_TFa] [con_f38] RR_f1b [(0, [⟨.loc 20 0, .par 0, [.CI 1 2], none, none⟩])] fun y => [e_TAk y.1, e_TFa y.2]
def S_f1b : AO :=
 Aj Tryz.f78 2 1 X_f1b (fun x => [(V.ptr (.par 0) []), (V.int .i64) x.1, e_TFa x.2]) fun l => (dI (at_ l 1), d_TFa (at_ l 2))
def tt_f1b (x : X_f1b) : TT Tryz.prog RR_f1b :=
 (.need (A6 x.fst x.snd.p.AB.n) <|
 (.need (A6 x.fst x.snd.threads.n) <|
 (.need ((Nat.beq x.snd.threads.n x.snd.threads.n) && true) <|
 (.call con_f38 ((x.snd.p.AB.get (Int.toNat x.fst)), (x.snd.threads.get ((0 : Nat) + (Int.toNat x.fst)))) fun (y1 : R_f38) =>
 (.need ((true && true) && (Nat.beq x.snd.threads.n x.snd.threads.n)) <|
 (.ret (y1.snd.fst, x.snd)))))))
theorem sd_f1b (x : X_f1b) : (tt_f1b x).AJ :=
 (TT.sN (TT.sN (TT.sN (TT.sC fun _ => (TT.sN TT.sR)))))
theorem roT_f1b (x : X_f1b) : TT.Ro p_f1b (w_f1b x) (tt_f1b x) :=
 (TT.rN (TT.rN (TT.rN (TT.rC fun _ => (TT.rN (TT.rR rfl))))))
def D_f1b : AU X_f1b R_f1b := .ro (.of tt_f1b) (fun y => (y.1)) (fun y x => (y, x.2)) fun x y h => congrArg (fun o => (y.1, o)) (roT_f1b x y h)
def con_f1b : BE Tryz.prog :=
 Di 78 J_f1b S_f1b (.of tt_f1b) D_f1b (fun y x => (y, x.2)) (fun y => e_TAk y) 2 1 [.any, .any] (lk mxk lbn sd_f1b) (fun x => ⟨(nu_e_TFa : ∀ y, (e_TFa y).Cl) (x.2), trivial⟩)
abbrev X_f1o : Type := Int × TFa
abbrev R_f1o : Type := TAk × Int
abbrev RR_f1o : Type := TAk × Int × TFa
abbrev p_f1o (y : RR_f1o) : TFa := y.2.2
abbrev w_f1o (x : X_f1o) : TFa := x.2
def J_f1o : BM Tryz.prog :=
 BS Tryz.prog Tryz.f42 19 [] [] [] [] [.any, .any] [sh_TFa] [con_f1b, con_f1a] RR_f1o [] fun y => [V.Cb (V.cons (e_TAk y.1) (V.cons ((V.int .i64) y.2.1) (V.unit))), e_TFa y.2.2]
def S_f1o : AO :=
 Aj Tryz.f42 2 1 X_f1o (fun x => [(V.ptr (.par 0) []), (V.int .i64) x.1, e_TFa x.2]) fun l => (dI (at_ l 1), d_TFa (at_ l 2))
def tt_f1o (x : X_f1o) : TT Tryz.prog RR_f1o :=
 (.call con_f1a (x.fst, x.snd) fun (y1 : R_f1a) =>
 (.ite (!y1)
 (.ret ((TAk.mk 0 0 0 0 0 0), (5, x.snd)))
 (.call con_f1b (x.fst, x.snd) fun (y2 : R_f1b) =>
 (.ret (y2, (0, x.snd))))))
theorem sd_f1o (x : X_f1o) : (tt_f1o x).AJ :=
 (TT.sC fun _ => (TT.sI TT.sR (TT.sC fun _ => TT.sR)))
theorem roT_f1o (x : X_f1o) : TT.Ro p_f1o (w_f1o x) (tt_f1o x) :=
 (TT.rC fun _ => (TT.rI (TT.rR rfl) (TT.rC fun _ => (TT.rR rfl))))
def D_f1o : AU X_f1o R_f1o := .ro (.of tt_f1o) (fun y => (y.1, y.2.1)) (fun y x => (y.1, y.2, x.2)) fun x y h => congrArg (fun o => (y.1, y.2.1, o)) (roT_f1o x y h)
def con_f1o : BE Tryz.prog :=
 Di 42 J_f1o S_f1o (.of tt_f1o) D_f1o (fun y x => (y.1, y.2, x.2)) (fun y => V.Cb (V.cons (e_TAk y.1) (V.cons ((V.int .i64) y.2) (V.unit)))) 2 1 [.any, .any] (lk mxk lbn sd_f1o) (fun x => ⟨(nu_e_TFa : ∀ y, (e_TFa y).Cl) (x.2), trivial⟩)
abbrev X_fw : Type := (Ar TSo)
abbrev R_fw : Type := (Sl TSo)
abbrev RR_fw : Type := (Sl TSo) × (Ar TSo)
abbrev p_fw (y : RR_fw) : (Ar TSo) := y.2
abbrev w_fw (x : X_fw) : (Ar TSo) := x
def J_fw : BM Tryz.prog :=
 BS Tryz.prog Tryz.f137 8 [(6, 1)] [] [] [.E0 2] [hsl_TSo] [.any] [] RR_fw [] fun y => [esl_TSo y.1, (Mv 3 e_TSo) y.2]
def S_fw : AO :=
 Aj Tryz.f137 1 1 X_fw (fun x => [(V.own (.par 0) [] 3 x.n 0 x.n), (Mv 3 e_TSo) x]) fun l => ((R6 d_TSo) (at_ l 1))
def tt_fw (x : X_fw) : TT Tryz.prog RR_fw :=
 (.need (Nat.blt 0 x.n) <|
 (.need ((true && (Nat.beq x.n x.n)) && (room ((0 : Nat) + x.n) 24)) <|
 (.side (∀ i1 : Nat, ((i1 < x.n) → ((true && (true && (true && true))) = true))) <|
 (.ret ((Sl.mk (cond (Nat.beq x.n 0) false false) ((0 : Nat) + x.n) (fun i1 => (TSo.mk (cond (Nat.blt i1 0) (0 : Int) (x.get ((0 : Nat) + (i1 - 0))).AP) (cond (Nat.blt i1 0) (0 : Int) (x.get ((0 : Nat) + (i1 - 0))).Value) (cond (Nat.blt i1 0) (0 : Int) (x.get ((0 : Nat) + (i1 - 0))).Left)))), x)))))
theorem sd_fw (x : X_fw) : (tt_fw x).AJ :=
 (TT.sN (TT.sN (TT.sS (fun _ _ => rfl) TT.sR)))
theorem roT_fw (x : X_fw) : TT.Ro p_fw (w_fw x) (tt_fw x) :=
 (TT.rN (TT.rN (TT.rS (TT.rR rfl))))
def D_fw : AU X_fw R_fw := .ro (.of tt_fw) (fun y => (y.1)) (fun y x => (y, x)) fun x y h => congrArg (fun o => (y.1, o)) (roT_fw x y h)
def con_fw : BE Tryz.prog :=
 Di 137 J_fw S_fw (.of tt_fw) D_fw (fun y x => (y, x)) (fun y => esl_TSo y) 1 1 [.any] (lk mxk lbn sd_fw) (fun x => ⟨(fun _ _ => (nu_e_TSo) _ : ∀ y, ((Mv 3 e_TSo) y).Cl) (x), trivial⟩)
abbrev X_f20 : Type := TSs
abbrev R_f20 : Type := (Sl TSo)
abbrev RR_f20 : Type := (Sl TSo) × TSs
abbrev p_f20 (y : RR_f20) : TSs := y.2
abbrev w_f20 (x : X_f20) : TSs := x
def J_f20 : BM Tryz.prog :=
 BS Tryz.prog Tryz.f84 10 [] [] [] [.back (.loc 8 0), .E0 2] [hsl_TSo] [sh_TSs] [con_fw] RR_f20 [] fun y => [esl_TSo y.1, e_TSs y.2]
def S_f20 : AO :=
 Aj Tryz.f84 1 1 X_f20 (fun x => [(V.ptr (.par 0) []), e_TSs x]) fun l => (d_TSs (at_ l 1))
def tt_f20 (x : X_f20) : TT Tryz.prog RR_f20 :=
 (.call con_fw (Ar.mk x.l.n x.l.get) fun (y1 : R_fw) =>
 (.need ((true && true) && (Nat.beq x.l.n x.l.n)) <|
 (.ret (y1, x))))
theorem sd_f20 (x : X_f20) : (tt_f20 x).AJ :=
 (TT.sC fun _ => (TT.sN TT.sR))
theorem roT_f20 (x : X_f20) : TT.Ro p_f20 (w_f20 x) (tt_f20 x) :=
 (TT.rC fun _ => (TT.rN (TT.rR rfl)))
def D_f20 : AU X_f20 R_f20 := .ro (.of tt_f20) (fun y => (y.1)) (fun y x => (y, x)) fun x y h => congrArg (fun o => (y.1, o)) (roT_f20 x y h)
def con_f20 : BE Tryz.prog :=
 Di 84 J_f20 S_f20 (.of tt_f20) D_f20 (fun y x => (y, x)) (fun y => esl_TSo y) 1 1 [.any] (lk mxk lbn sd_f20) (fun x => ⟨(nu_e_TSs : ∀ y, (e_TSs y).Cl) (x), trivial⟩)
abbrev X_f13 : Type := (Ar Int)
abbrev R_f13 : Type := (Sl Int)
abbrev RR_f13 : Type := (Sl Int) × (Ar Int)
abbrev p_f13 (y : RR_f13) : (Ar Int) := y.2
abbrev w_f13 (x : X_f13) : (Ar Int) := x
def J_f13 : BM Tryz.prog :=
 BS Tryz.prog Tryz.f47 8 [(6, 1)] [] [] [.E0 2] [BP] [.any] [] RR_f13 [] fun y => [BG y.1, (Mv 1 (V.int .u64)) y.2]
def S_f13 : AO :=
 Aj Tryz.f47 1 1 X_f13 (fun x => [(V.own (.par 0) [] 1 x.n 0 x.n), (Mv 1 (V.int .u64)) x]) fun l => ((R6 dI) (at_ l 1))
def tt_f13 (x : X_f13) : TT Tryz.prog RR_f13 :=
 (.need (Nat.blt 0 x.n) <|
 (.need ((true && (Nat.beq x.n x.n)) && (room ((0 : Nat) + x.n) 8)) <|
 (.side (∀ i1 : Nat, ((i1 < x.n) → (true = true))) <|
 (.ret ((Sl.mk (cond (Nat.beq x.n 0) false false) ((0 : Nat) + x.n) (fun i1 => (cond (Nat.blt i1 0) (0 : Int) (x.get ((0 : Nat) + (i1 - 0)))))), x)))))
theorem sd_f13 (x : X_f13) : (tt_f13 x).AJ :=
 (TT.sN (TT.sN (TT.sS (fun _ _ => rfl) TT.sR)))
theorem roT_f13 (x : X_f13) : TT.Ro p_f13 (w_f13 x) (tt_f13 x) :=
 (TT.rN (TT.rN (TT.rS (TT.rR rfl))))
def D_f13 : AU X_f13 R_f13 := .ro (.of tt_f13) (fun y => (y.1)) (fun y x => (y, x)) fun x y h => congrArg (fun o => (y.1, o)) (roT_f13 x y h)
def con_f13 : BE Tryz.prog :=
 Di 47 J_f13 S_f13 (.of tt_f13) D_f13 (fun y x => (y, x)) (fun y => BG y) 1 1 [.any] (lk mxk lbn sd_f13) (fun x => ⟨(fun _ _ => trivial : ∀ y, ((Mv 1 (V.int .u64)) y).Cl) (x), trivial⟩)
structure TRs where
 A0 : Int
 AV : (Sl Int)
 As : Bool
 Al : (Sl TSo)
def d_TRs (v : V) : TRs :=
 ⟨dI (fd v 0), Bc (fd v 1), dB (fd v 2), dsl_TSo (fd v 3)⟩
def e_TRs (x : TRs) : V :=
 V.cons ((V.int .u64) x.A0) (V.cons (BG x.AV) (V.cons (V.bool x.As) (V.cons (esl_TSo x.Al) (V.unit))))
theorem nu_e_TRs (x : TRs) : (e_TRs x).Cl := ⟨trivial, trivial, trivial, trivial, trivial⟩
def sh_TRs : Sh := (.cons .any (.cons BP (.cons .any (.cons hsl_TSo .any))))
abbrev X_f1l : Type := TRr
abbrev R_f1l : Type := TRs
abbrev RR_f1l : Type := TRs × TRr
abbrev p_f1l (y : RR_f1l) : TRr := y.2
abbrev w_f1l (x : X_f1l) : TRr := x
def J_f1l : BM Tryz.prog :=
 BS Tryz.prog Tryz.f48 27 [] [] [(3, [.Ia (.par 0) [.CI 0 0, .CI 1 1] 15, .Ia (.par 0) [.CI 1 2] 24])] [.back (.loc 24 0), .back (.loc 15 0)] [sh_TRs] [sh_TRr] [con_f13, con_f20] RR_f1l [(0, [⟨.loc 15 0, .par 0, [.CI 0 0, .CI 1 1], none, none⟩, ⟨.loc 24 0, .par 0, [.CI 1 2], none, none⟩])] fun y => [e_TRs y.1, e_TRr y.2]
def S_f1l : AO :=
 Aj Tryz.f48 1 1 X_f1l (fun x => [(V.ptr (.par 0) []), e_TRr x]) fun l => (d_TRr (at_ l 1))
def tt_f1l (x : X_f1l) : TT Tryz.prog RR_f1l :=
 (.need ((true && true) && (!x.s.nil)) <|
 (.call con_f13 (Ar.mk x.AA.AD.n x.AA.AD.get) fun (y1 : R_f13) =>
 (.call con_f20 x.s.x fun (y2 : R_f20) =>
 (.need ((true && true) && (!x.s.nil)) <|
 (.side ((fun v : V => v = v) (V.cons (V.BA 175 3 x.s.x.l.nil x.s.x.l.n (fun i3 => (V.cons (V.int IntKind.u64 (x.s.x.l.get i3).AP) (V.cons (V.int IntKind.u64 (x.s.x.l.get i3).Value) (V.cons (V.int IntKind.i64 (x.s.x.l.get i3).Left) V.unit))))) (V.cons (V.int IntKind.i64 x.s.x.AX) V.unit))) <|
 (.need ((true && true) && (Nat.beq x.AA.AD.n x.AA.AD.n)) <|
 (.ret ((TRs.mk x.AA.tail y1 x.closed y2), x))))))))
theorem sd_f1l (x : X_f1l) : (tt_f1l x).AJ :=
 (TT.sN (TT.sC fun _ => (TT.sC fun _ => (TT.sN (TT.sS rfl (TT.sN TT.sR))))))
theorem roT_f1l (x : X_f1l) : TT.Ro p_f1l (w_f1l x) (tt_f1l x) :=
 (TT.rN (TT.rC fun _ => (TT.rC fun _ => (TT.rN (TT.rS (TT.rN (TT.rR rfl)))))))
def D_f1l : AU X_f1l R_f1l := .ro (.of tt_f1l) (fun y => (y.1)) (fun y x => (y, x)) fun x y h => congrArg (fun o => (y.1, o)) (roT_f1l x y h)
def con_f1l : BE Tryz.prog :=
 Di 48 J_f1l S_f1l (.of tt_f1l) D_f1l (fun y x => (y, x)) (fun y => e_TRs y) 1 1 [.any] (lk mxk lbn sd_f1l) (fun x => ⟨(nu_e_TRr : ∀ y, (e_TRr y).Cl) (x), trivial⟩)
abbrev X_f1z : Type := Int × Int × Int × TSo
abbrev R_f1z : Type := Bool
def J_f1z : BM Tryz.prog :=
 BS Tryz.prog Tryz.f149 45 [(7, 3)] [] [] [] [.any] [] [] R_f1z [] fun y => [V.bool y]
def S_f1z : AO :=
 Aj Tryz.f149 4 0 X_f1z (fun x => [(V.int .i64) x.1, (V.int .i64) x.2.1, (V.int .i64) x.2.2.1, e_TSo x.2.2.2]) fun l => (dI (at_ l 0), dI (at_ l 1), dI (at_ l 2), d_TSo (at_ l 3))
structure X_f1z_3 where
 JZ : Int
 Vk : TSo
def S_f1z_3 : AO :=
 Ad Tryz.f149 3 (an [2, 7]) [] [] X_f1z_3 (fun x => [(V.int .i64) x.JZ, (Ch e_TSo) x.Vk]) fun l => ⟨dI (at_ l 0), (Ci d_TSo) (at_ l 1)⟩
def tt_f1z_3 (x : X_f1z_3) : TT Tryz.prog R_f1z :=
 (.ite (AW (Int.tmod x.Vk.AP 2) 0)
 (.ite (AW x.Vk.Value 0)
 (.ret (AW x.Vk.Left 0))
 (.ret false))
 (.ite (Bw 1 x.Vk.Left)
 (.need (Bw 0 x.JZ) <|
 (.ret (Bq x.Vk.Left (shl IntKind.i64 1 x.JZ))))
 (.ret false)))
theorem sd_f1z_3 (x : X_f1z_3) : (tt_f1z_3 x).AJ :=
 (TT.sI (TT.sI TT.sR TT.sR) (TT.sI (TT.sN TT.sR) TT.sR))
def D_f1z_3 : AU X_f1z_3 R_f1z := .of tt_f1z_3
theorem ok_f1z_3 : AY J_f1z S_f1z_3 D_f1z_3 :=
 lk mxk lbn sd_f1z_3
def tt_f1z (x : X_f1z) : TT Tryz.prog R_f1z :=
 (.ite (Bw 9223372036854775808 x.snd.snd.snd.AP)
 (.ret false)
 (.need (!(AW (IntKind.u64.wrap x.snd.fst) 0)) <|
 (.ite (!(AW (Int.tmod (IntKind.u64.wrap (Int.tdiv x.snd.snd.snd.AP 2)) (IntKind.u64.wrap x.snd.fst)) (IntKind.u64.wrap x.fst)))
 (.ret false)
 (.AM S_f1z_3 D_f1z_3 (X_f1z_3.mk x.snd.snd.fst x.snd.snd.snd)))))
theorem sd_f1z (x : X_f1z) : (tt_f1z x).AJ :=
 (TT.sI TT.sR (TT.sN (TT.sI TT.sR TT.sJ)))
def D_f1z : AU X_f1z R_f1z := .of tt_f1z
def con_f1z : BE Tryz.prog :=
 B2 149 J_f1z S_f1z D_f1z 4 0 [.any, .any, .any, .any] (lk mxk (lbc ok_f1z_3 rfl lbn) sd_f1z)
abbrev X_f1n : Type := (Sl TSo)
abbrev R_f1n : Type := (Sl TSo)
def J_f1n : BM Tryz.prog :=
 BS Tryz.prog Tryz.f137 8 [(5, 1), (6, 1)] [] [] [.E0 2] [hosl_TSo] [] [] R_f1n [] fun y => [eosl_TSo y]
def S_f1n : AO :=
 Aj Tryz.f137 1 0 X_f1n (fun x => [esl_TSo x]) fun l => (dsl_TSo (at_ l 0))
def tt_f1n (x : X_f1n) : TT Tryz.prog R_f1n :=
 (.ite x.nil
 (.ret (Sl.mk true 0 (fun _i1 => (TSo.mk 0 0 0))))
 (.need (true && (room ((0 : Nat) + x.n) 24)) <|
 (.ret (Sl.mk (cond (Nat.beq x.n 0) false false) ((0 : Nat) + x.n) (fun i1 => (TSo.mk (cond (Nat.blt i1 0) (0 : Int) (x.get (i1 - 0)).AP) (cond (Nat.blt i1 0) (0 : Int) (x.get (i1 - 0)).Value) (cond (Nat.blt i1 0) (0 : Int) (x.get (i1 - 0)).Left)))))))
theorem sd_f1n (x : X_f1n) : (tt_f1n x).AJ :=
 (TT.sI TT.sR (TT.sN TT.sR))
def D_f1n : AU X_f1n R_f1n := .of tt_f1n
def con_f1n : BE Tryz.prog :=
 B2 137 J_f1n S_f1n D_f1n 1 0 [hsl_TSo] (lk mxk lbn sd_f1n)
abbrev X_fx : Type := Int × Int × (Sl TSo)
abbrev R_fx : Type := (Bx TSs) × Int
def J_fx : BM Tryz.prog :=
 BS Tryz.prog Tryz.f98 37 [(32, 1)] [] [] [.E0 6] [hbox_TSs, .any] [] [con_f1n, con_f3u, con_f1z] R_fx [] fun y => [V.Cb (V.cons (ebox_TSs y.1) (V.cons ((V.int .i64) y.2) (V.unit)))]
def S_fx : AO :=
 Aj Tryz.f98 3 0 X_fx (fun x => [(V.int .i64) x.1, (V.int .i64) x.2.1, esl_TSo x.2.2]) fun l => (dI (at_ l 0), dI (at_ l 1), dsl_TSo (at_ l 2))
structure X_fx_6 where
 FJ : Int
 E3 : Int
 Vq : (Sl TSo)
 UE : (Sl TSo)
 VJ : Int
 RT : Int
def S_fx_6 : AO :=
 Ad Tryz.f98 6 [(0, .any), (1, .any), (2, hsl_TSo), (18, hsl_TSo), (19, .any), (20, .any)] [] [] X_fx_6 (fun x => [(V.int .i64) x.FJ, (V.int .i64) x.E3, esl_TSo x.Vq, esl_TSo x.UE, (V.int .i64) x.VJ, (V.int .i64) x.RT]) fun l => ⟨dI (at_ l 0), dI (at_ l 1), dsl_TSo (at_ l 2), dsl_TSo (at_ l 3), dI (at_ l 4), dI (at_ l 5)⟩
structure X_fx_11 where
 E3 : Int
 Vq : (Sl TSo)
def S_fx_11 : AO :=
 Ad Tryz.f98 11 [(1, .any), (2, hsl_TSo)] [] [] X_fx_11 (fun x => [(V.int .i64) x.E3, esl_TSo x.Vq]) fun l => ⟨dI (at_ l 0), dsl_TSo (at_ l 1)⟩
def tt_fx_11 (x : X_fx_11) : TT Tryz.prog R_fx :=
 (.call con_f1n x.Vq fun (y1 : R_f1n) =>
 (.ret ((Bx.mk false (TSs.mk y1 x.E3)), 0)))
theorem sd_fx_11 (x : X_fx_11) : (tt_fx_11 x).AJ :=
 (TT.sC fun _ => TT.sR)
def D_fx_11 : AU X_fx_11 R_fx := .of tt_fx_11
theorem ok_fx_11 : AY J_fx S_fx_11 D_fx_11 :=
 lk mxk lbn sd_fx_11
def tt_fx_6 (D_fx_6 : AU X_fx_6 R_fx) (x : X_fx_6) : TT Tryz.prog R_fx :=
 (.ite (Bq x.RT x.VJ)
 (.need (A6 x.RT x.UE.n) <|
 (.call con_f1z (x.RT, (x.FJ, (x.E3, (x.UE.get (Int.toNat x.RT))))) fun (y2 : R_f1z) =>
 (.ite (!y2)
 (.ret ((Bx.mk true (TSs.mk (Sl.mk true 0 (fun _i3 => (TSo.mk 0 0 0))) 0)), 3))
 (.AM S_fx_6 D_fx_6 (X_fx_6.mk x.FJ x.E3 x.Vq x.UE x.VJ (IntKind.i64.wrap (x.RT + 1)))))))
 (.AM S_fx_11 D_fx_11 (X_fx_11.mk x.E3 x.Vq)))
theorem sd_fx_6 (D_fx_6 : AU X_fx_6 R_fx) (x : X_fx_6) : (tt_fx_6 D_fx_6 x).AJ :=
 (TT.sI (TT.sN (TT.sC fun _ => (TT.sI TT.sR TT.sJ))) TT.sJ)
def D_fx_6 : AU X_fx_6 R_fx := AU.loop tt_fx_6
theorem ok_fx_6 : AY J_fx S_fx_6 D_fx_6 :=
 A8 fun D_fx_6 h_6 => lk mxk (lbc h_6 rfl (lbc ok_fx_11 rfl lbn)) (sd_fx_6 D_fx_6)
def tt_fx (x : X_fx) : TT Tryz.prog R_fx :=
 (.call con_f3u (x.fst, x.snd.fst) fun (y1 : R_f3u) =>
 (.ite (!y1)
 (.ret ((Bx.mk true (TSs.mk (Sl.mk true 0 (fun _i2 => (TSo.mk 0 0 0))) 0)), 1))
 (.ite (!(AW ((x.snd.snd.n : Nat) : Int) x.fst))
 (.ret ((Bx.mk true (TSs.mk (Sl.mk true 0 (fun _i2 => (TSo.mk 0 0 0))) 0)), 3))
 (.AM S_fx_6 D_fx_6 (X_fx_6.mk x.fst x.snd.fst x.snd.snd x.snd.snd ((x.snd.snd.n : Nat) : Int) 0)))))
theorem sd_fx (x : X_fx) : (tt_fx x).AJ :=
 (TT.sC fun _ => (TT.sI TT.sR (TT.sI TT.sR TT.sJ)))
def D_fx : AU X_fx R_fx := .of tt_fx
def con_fx : BE Tryz.prog :=
 B2 98 J_fx S_fx D_fx 3 0 [.any, .any, hsl_TSo] (lk mxk (lbc ok_fx_11 rfl (lbc ok_fx_6 rfl lbn)) sd_fx)
abbrev X_f0 : Type := TSo × TRr
abbrev R_f0 : Type := Bool
abbrev RR_f0 : Type := Bool × TRr
abbrev p_f0 (y : RR_f0) : TRr := y.2
abbrev w_f0 (x : X_f0) : TRr := x.2
def J_f0 : BM Tryz.prog :=
 BS Tryz.prog Tryz.f99 74 [(3, 3)] [(9, [.back (.loc 30 0)]), (11, [.back (.loc 30 0)]), (13, [.back (.loc 30 0)])] [] [.back (.loc 30 0)] [.any] [sh_TRr] [] RR_f0 [(6, [⟨.loc 30 0, .par 0, [.CI 0 0, .CI 1 1], none, none⟩]), (12, [⟨.loc 30 0, .par 0, [.CI 0 0, .CI 1 1], none, none⟩])] fun y => [V.bool y.1, e_TRr y.2]
def S_f0 : AO :=
 Aj Tryz.f99 2 1 X_f0 (fun x => [(V.ptr (.par 0) []), e_TSo x.1, e_TRr x.2]) fun l => (d_TSo (at_ l 1), d_TRr (at_ l 2))
structure X_f0_5 where
 OB : TSo
 K1 : Int
 DE : Bool
 Ah : TRr
def S_f0_5 : AO :=
 Ad Tryz.f99 5 (an [0, 3, 5, 6]) [sh_TRr] [] X_f0_5 (fun x => [(V.ptr (.par 0) []), (Ch e_TSo) x.OB, (V.int .u64) x.K1, V.bool x.DE, e_TRr x.Ah]) fun l => ⟨(Ci d_TSo) (at_ l 1), dI (at_ l 2), dB (at_ l 3), d_TRr (at_ l 4)⟩
structure X_f0_6 where
 OB : TSo
 K1 : Int
 DE : Bool
 GF : Int
 GD : Int
 Ah : TRr
def S_f0_6 : AO :=
 Ad Tryz.f99 6 (an [0, 3, 5, 6, 30, 31, 32]) [sh_TRr] [(.loc 30 0, .any)] X_f0_6 (fun x => [(V.ptr (.par 0) []), (Ch e_TSo) x.OB, (V.int .u64) x.K1, V.bool x.DE, (V.own (.loc 30 0) [] 1 x.Ah.AA.AD.n 0 x.Ah.AA.AD.n), (V.int .i64) x.GF, (V.int .i64) x.GD, V.cons (V.cons ((V.int .u64) x.Ah.AA.tail) (V.cons (V.CB (.loc 30 0) 36 1 x.Ah.AA.AD.nil x.Ah.AA.AD.n) (V.unit))) (V.cons (ebox_TSs x.Ah.s) (V.cons ((V.int .u64) x.Ah.most) (V.cons (V.bool x.Ah.closed) (V.unit)))), (V.arr 1 x.Ah.AA.AD.n fun i => (V.int .u64) (x.Ah.AA.AD.get i))]) fun l => ⟨(Ci d_TSo) (at_ l 1), dI (at_ l 2), dB (at_ l 3), dI (at_ l 5), dI (at_ l 6), { d_TRr (at_ l 7) with AA.AD := ⟨(SP (fd (fd (at_ l 7) 0) 1)).nil, (SP (fd (fd (at_ l 7) 0) 1)).n, (R6 dI (at_ l 8)).get⟩ }⟩
structure X_f0_12 where
 OB : TSo
 K1 : Int
 DE : Bool
 GF : Int
 GD : Int
 Ah : TRr
def S_f0_12 : AO :=
 Ad Tryz.f99 12 (an [0, 3, 5, 6, 30, 31, 32]) [sh_TRr] [(.loc 30 0, .any)] X_f0_12 (fun x => [(V.ptr (.par 0) []), (Ch e_TSo) x.OB, (V.int .u64) x.K1, V.bool x.DE, (V.own (.loc 30 0) [] 1 x.Ah.AA.AD.n 0 x.Ah.AA.AD.n), (V.int .i64) x.GF, (V.int .i64) x.GD, V.cons (V.cons ((V.int .u64) x.Ah.AA.tail) (V.cons (V.CB (.loc 30 0) 36 1 x.Ah.AA.AD.nil x.Ah.AA.AD.n) (V.unit))) (V.cons (ebox_TSs x.Ah.s) (V.cons ((V.int .u64) x.Ah.most) (V.cons (V.bool x.Ah.closed) (V.unit)))), (V.arr 1 x.Ah.AA.AD.n fun i => (V.int .u64) (x.Ah.AA.AD.get i))]) fun l => ⟨(Ci d_TSo) (at_ l 1), dI (at_ l 2), dB (at_ l 3), dI (at_ l 5), dI (at_ l 6), { d_TRr (at_ l 7) with AA.AD := ⟨(SP (fd (fd (at_ l 7) 0) 1)).nil, (SP (fd (fd (at_ l 7) 0) 1)).n, (R6 dI (at_ l 8)).get⟩ }⟩
abbrev w_f0_5 (x : X_f0_5) : TRr := (x.Ah)
abbrev w_f0_6 (x : X_f0_6) : TRr := (x.Ah)
abbrev w_f0_12 (x : X_f0_12) : TRr := (x.Ah)
def tt_f0_12 (D_f0_6 : AU X_f0_6 RR_f0) (x : X_f0_12) : TT Tryz.prog RR_f0 :=
 (.AM S_f0_6 D_f0_6 (X_f0_6.mk x.OB x.K1 x.DE x.GF (IntKind.i64.wrap (x.GD + 1)) x.Ah))
theorem sd_f0_12 (D_f0_6 : AU X_f0_6 RR_f0) (x : X_f0_12) : (tt_f0_12 D_f0_6 x).AJ :=
 TT.sJ
theorem roT_f0_12 (D_f0_6 : AU X_f0_6 RR_f0) (r6 : ∀ x y, D_f0_6.rel x y → p_f0 y = w_f0_6 x) (x : X_f0_12) : TT.Ro p_f0 (w_f0_12 x) (tt_f0_12 D_f0_6 x) :=
 (TT.rJ (r6 _))
def D_f0_12 (D_f0_6 : AU X_f0_6 RR_f0) : AU X_f0_12 RR_f0 := .of (tt_f0_12 D_f0_6)
theorem ok_f0_12 (D_f0_6 : AU X_f0_6 RR_f0) (h_6 : AY J_f0 S_f0_6 D_f0_6) : AY J_f0 S_f0_12 (D_f0_12 D_f0_6) :=
 lk mxk (lbc h_6 rfl lbn) (sd_f0_12 D_f0_6)
theorem ro_f0_12 (D_f0_6 : AU X_f0_6 RR_f0) (r6 : ∀ x y, D_f0_6.rel x y → p_f0 y = w_f0_6 x) : ∀ x y, (D_f0_12 D_f0_6).rel x y → p_f0 y = w_f0_12 x :=
 roT_f0_12 D_f0_6 r6
def tt_f0_6 (D_f0_6 : AU X_f0_6 RR_f0) (x : X_f0_6) : TT Tryz.prog RR_f0 :=
 (.ite (Bq x.GD x.GF)
 (.need (A6 x.GD x.Ah.AA.AD.n) <|
 (.need ((Nat.beq x.Ah.AA.AD.n x.Ah.AA.AD.n) && true) <|
 (.ite x.DE
 (.need (Bw 0 x.GD) <|
 (.ite (AW (Vm.bits .and IntKind.i64 (shr IntKind.i64 x.OB.Left x.GD) 1) 0)
 (.ite (Bw (x.Ah.AA.AD.get ((0 : Nat) + (Int.toNat x.GD))) x.K1)
 (.need ((true && true) && (Nat.beq x.Ah.AA.AD.n x.Ah.AA.AD.n)) <|
 (.ret (false, x.Ah)))
 (.ite (!x.DE)
 (.ite (Bw x.Ah.most x.K1)
 (.ite (Bw (x.Ah.AA.AD.get ((0 : Nat) + (Int.toNat x.GD))) (IntKind.u64.wrap (x.K1 - x.Ah.most)))
 (.need ((true && true) && (Nat.beq x.Ah.AA.AD.n x.Ah.AA.AD.n)) <|
 (.ret (false, x.Ah)))
 (.AM S_f0_12 (D_f0_12 D_f0_6) (X_f0_12.mk x.OB x.K1 x.DE x.GF x.GD x.Ah)))
 (.AM S_f0_12 (D_f0_12 D_f0_6) (X_f0_12.mk x.OB x.K1 x.DE x.GF x.GD x.Ah)))
 (.AM S_f0_12 (D_f0_12 D_f0_6) (X_f0_12.mk x.OB x.K1 x.DE x.GF x.GD x.Ah))))
 (.ite (!x.DE)
 (.ite (Bw x.Ah.most x.K1)
 (.ite (Bw (x.Ah.AA.AD.get ((0 : Nat) + (Int.toNat x.GD))) (IntKind.u64.wrap (x.K1 - x.Ah.most)))
 (.need ((true && true) && (Nat.beq x.Ah.AA.AD.n x.Ah.AA.AD.n)) <|
 (.ret (false, x.Ah)))
 (.AM S_f0_12 (D_f0_12 D_f0_6) (X_f0_12.mk x.OB x.K1 x.DE x.GF x.GD x.Ah)))
 (.AM S_f0_12 (D_f0_12 D_f0_6) (X_f0_12.mk x.OB x.K1 x.DE x.GF x.GD x.Ah)))
 (.AM S_f0_12 (D_f0_12 D_f0_6) (X_f0_12.mk x.OB x.K1 x.DE x.GF x.GD x.Ah)))))
 (.ite (!x.DE)
 (.ite (Bw x.Ah.most x.K1)
 (.ite (Bw (x.Ah.AA.AD.get ((0 : Nat) + (Int.toNat x.GD))) (IntKind.u64.wrap (x.K1 - x.Ah.most)))
 (.need ((true && true) && (Nat.beq x.Ah.AA.AD.n x.Ah.AA.AD.n)) <|
 (.ret (false, x.Ah)))
 (.AM S_f0_12 (D_f0_12 D_f0_6) (X_f0_12.mk x.OB x.K1 x.DE x.GF x.GD x.Ah)))
 (.AM S_f0_12 (D_f0_12 D_f0_6) (X_f0_12.mk x.OB x.K1 x.DE x.GF x.GD x.Ah)))
 (.AM S_f0_12 (D_f0_12 D_f0_6) (X_f0_12.mk x.OB x.K1 x.DE x.GF x.GD x.Ah))))))
 (.need ((true && true) && (Nat.beq x.Ah.AA.AD.n x.Ah.AA.AD.n)) <|
 (.ret (true, x.Ah))))
theorem sd_f0_6 (D_f0_6 : AU X_f0_6 RR_f0) (x : X_f0_6) : (tt_f0_6 D_f0_6 x).AJ :=
 (TT.sI (TT.sN (TT.sN (TT.sI (TT.sN (TT.sI (TT.sI (TT.sN TT.sR) (TT.sI (TT.sI (TT.sI (TT.sN TT.sR) TT.sJ) TT.sJ) TT.sJ)) (TT.sI (TT.sI (TT.sI (TT.sN TT.sR) TT.sJ) TT.sJ) TT.sJ))) (TT.sI (TT.sI (TT.sI (TT.sN TT.sR) TT.sJ) TT.sJ) TT.sJ)))) (TT.sN TT.sR))
theorem roT_f0_6 (D_f0_6 : AU X_f0_6 RR_f0) (r6 : ∀ x y, D_f0_6.rel x y → p_f0 y = w_f0_6 x) (x : X_f0_6) : TT.Ro p_f0 (w_f0_6 x) (tt_f0_6 D_f0_6 x) :=
 (TT.rI (TT.rN (TT.rN (TT.rI (TT.rN (TT.rI (TT.rI (TT.rN (TT.rR rfl)) (TT.rI (TT.rI (TT.rI (TT.rN (TT.rR rfl)) (TT.rJ (ro_f0_12 D_f0_6 r6 _))) (TT.rJ (ro_f0_12 D_f0_6 r6 _))) (TT.rJ (ro_f0_12 D_f0_6 r6 _)))) (TT.rI (TT.rI (TT.rI (TT.rN (TT.rR rfl)) (TT.rJ (ro_f0_12 D_f0_6 r6 _))) (TT.rJ (ro_f0_12 D_f0_6 r6 _))) (TT.rJ (ro_f0_12 D_f0_6 r6 _))))) (TT.rI (TT.rI (TT.rI (TT.rN (TT.rR rfl)) (TT.rJ (ro_f0_12 D_f0_6 r6 _))) (TT.rJ (ro_f0_12 D_f0_6 r6 _))) (TT.rJ (ro_f0_12 D_f0_6 r6 _)))))) (TT.rN (TT.rR rfl)))
def D_f0_6 : AU X_f0_6 RR_f0 := AU.loop tt_f0_6
theorem ok_f0_6 : AY J_f0 S_f0_6 D_f0_6 :=
 A8 fun D_f0_6 h_6 => lk mxk (lbc h_6 rfl (lbc (ok_f0_12 D_f0_6 h_6) rfl lbn)) (sd_f0_6 D_f0_6)
theorem ro_f0_6 : ∀ x y, D_f0_6.rel x y → p_f0 y = w_f0_6 x :=
 Kh fun D_f0_6 r6 => roT_f0_6 D_f0_6 r6
def tt_f0_5 (x : X_f0_5) : TT Tryz.prog RR_f0 :=
 (.AM S_f0_6 D_f0_6 (X_f0_6.mk x.OB x.K1 x.DE ((x.Ah.AA.AD.n : Nat) : Int) 0 x.Ah))
theorem sd_f0_5 (x : X_f0_5) : (tt_f0_5 x).AJ :=
 TT.sJ
theorem roT_f0_5 (x : X_f0_5) : TT.Ro p_f0 (w_f0_5 x) (tt_f0_5 x) :=
 (TT.rJ (ro_f0_6 _))
def D_f0_5 : AU X_f0_5 RR_f0 := .of tt_f0_5
theorem ok_f0_5 : AY J_f0 S_f0_5 D_f0_5 :=
 lk mxk (lbc ok_f0_6 rfl lbn) sd_f0_5
theorem ro_f0_5 : ∀ x y, D_f0_5.rel x y → p_f0 y = w_f0_5 x :=
 roT_f0_5 
def tt_f0 (x : X_f0) : TT Tryz.prog RR_f0 :=
 (.ite (AW (Int.tmod x.fst.AP 2) 1)
 (.ite (Bw x.snd.AA.tail (IntKind.u64.wrap (Int.tdiv x.fst.AP 2)))
 (.ret (false, x.snd))
 (.AM S_f0_5 D_f0_5 (X_f0_5.mk x.fst (IntKind.u64.wrap (Int.tdiv x.fst.AP 2)) (AW (Int.tmod x.fst.AP 2) 1) x.snd)))
 (.AM S_f0_5 D_f0_5 (X_f0_5.mk x.fst (IntKind.u64.wrap (Int.tdiv x.fst.AP 2)) (AW (Int.tmod x.fst.AP 2) 1) x.snd)))
theorem sd_f0 (x : X_f0) : (tt_f0 x).AJ :=
 (TT.sI (TT.sI TT.sR TT.sJ) TT.sJ)
theorem roT_f0 (x : X_f0) : TT.Ro p_f0 (w_f0 x) (tt_f0 x) :=
 (TT.rI (TT.rI (TT.rR rfl) (TT.rJ (ro_f0_5 _))) (TT.rJ (ro_f0_5 _)))
def D_f0 : AU X_f0 R_f0 := .ro (.of tt_f0) (fun y => (y.1)) (fun y x => (y, x.2)) fun x y h => congrArg (fun o => (y.1, o)) (roT_f0 x y h)
def con_f0 : BE Tryz.prog :=
 Di 99 J_f0 S_f0 (.of tt_f0) D_f0 (fun y x => (y, x.2)) (fun y => V.bool y) 2 1 [.any, .any] (lk mxk (lbc ok_f0_6 rfl (lbc ok_f0_5 rfl lbn)) sd_f0) (fun x => ⟨(nu_e_TRr : ∀ y, (e_TRr y).Cl) (x.2), trivial⟩)
abbrev X_f1x : Type := (Sl Int)
abbrev R_f1x : Type := (Sl Int)
def J_f1x : BM Tryz.prog :=
 BS Tryz.prog Tryz.f47 8 [(5, 1), (6, 1)] [] [] [.E0 2] [O0] [] [] R_f1x [] fun y => [Ll y]
def S_f1x : AO :=
 Aj Tryz.f47 1 0 X_f1x (fun x => [BG x]) fun l => (Bc (at_ l 0))
def tt_f1x (x : X_f1x) : TT Tryz.prog R_f1x :=
 (.ite x.nil
 (.ret (Sl.mk true 0 (fun _i1 => (0 : Int))))
 (.need (true && (room ((0 : Nat) + x.n) 8)) <|
 (.ret (Sl.mk (cond (Nat.beq x.n 0) false false) ((0 : Nat) + x.n) (fun i1 => (cond (Nat.blt i1 0) (0 : Int) (x.get (i1 - 0))))))))
theorem sd_f1x (x : X_f1x) : (tt_f1x x).AJ :=
 (TT.sI TT.sR (TT.sN TT.sR))
def D_f1x : AU X_f1x R_f1x := .of tt_f1x
def con_f1x : BE Tryz.prog :=
 B2 47 J_f1x S_f1x D_f1x 1 0 [BP] (lk mxk lbn sd_f1x)
abbrev X_fb : Type := TRg × TRs
abbrev R_fb : Type := (Bx TRr) × Int
def J_fb : BM Tryz.prog :=
 BS Tryz.prog Tryz.f57 113 [(2, 3), (3, 3), (13, 1), (21, 1), (57, 1), (112, 1)] [(7, [.open_ 6]), (12, [.close (.loc 72 0)]), (14, [.close (.loc 72 0)]), (15, [.close (.loc 72 0)]), (16, [.close (.loc 72 0)]), (17, [.close (.loc 72 0)]), (18, [.close (.loc 72 0)]), (19, [.close (.loc 72 0)]), (20, [.close (.loc 72 0)])] [] [.close (.loc 72 0), .E0 4] [hbox_TRr, .any] [] [con_f2r, con_f0, con_f1x, con_fx] R_fb [(9, [⟨.loc 72 0, .loc 6 1, [.CI 0 0, .CI 1 1], none, none⟩]), (13, [⟨.loc 72 0, .loc 6 1, [.CI 0 0, .CI 1 1], none, none⟩])] fun y => [V.Cb (V.cons (ebox_TRr y.1) (V.cons ((V.int .i64) y.2) (V.unit)))]
def S_fb : AO :=
 Aj Tryz.f57 2 0 X_fb (fun x => [e_TRg x.1, e_TRs x.2]) fun l => (d_TRg (at_ l 0), d_TRs (at_ l 1))
structure X_fb_7 where
 Eh : TRs
 l_8 : (Bx TSs)
 Es : TRr
def S_fb_7 : AO :=
 Ad Tryz.f57 7 [(3, .any), (6, .any), (8, hbox_TSs)] [] [(.loc 6 1, sh_TRr)] X_fb_7 (fun x => [(Ch e_TRs) x.Eh, (V.ptr (.loc 6 1) []), ebox_TSs x.l_8, e_TRr x.Es]) fun l => ⟨(Ci d_TRs) (at_ l 0), dbox_TSs (at_ l 2), d_TRr (at_ l 3)⟩
structure X_fb_9 where
 Eh : TRs
 RR : Int
 NS : Int
 Es : TRr
def S_fb_9 : AO :=
 Ad Tryz.f57 9 (an [3, 6, 72, 73, 74]) [] [(.loc 6 1, sh_TRr), (.loc 72 0, .any)] X_fb_9 (fun x => [(Ch e_TRs) x.Eh, (V.ptr (.loc 6 1) []), (V.own (.loc 72 0) [] 1 x.Es.AA.AD.n 0 x.Es.AA.AD.n), (V.int .i64) x.RR, (V.int .i64) x.NS, V.cons (V.cons ((V.int .u64) x.Es.AA.tail) (V.cons (V.CB (.loc 72 0) 36 1 x.Es.AA.AD.nil x.Es.AA.AD.n) (V.unit))) (V.cons (ebox_TSs x.Es.s) (V.cons ((V.int .u64) x.Es.most) (V.cons (V.bool x.Es.closed) (V.unit)))), (V.arr 1 x.Es.AA.AD.n fun i => (V.int .u64) (x.Es.AA.AD.get i))]) fun l => ⟨(Ci d_TRs) (at_ l 0), dI (at_ l 3), dI (at_ l 4), { d_TRr (at_ l 5) with AA.AD := ⟨(SP (fd (fd (at_ l 5) 0) 1)).nil, (SP (fd (fd (at_ l 5) 0) 1)).n, (R6 dI (at_ l 6)).get⟩ }⟩
structure X_fb_13 where
 Eh : TRs
 RR : Int
 NS : Int
 Es : TRr
def S_fb_13 : AO :=
 Ad Tryz.f57 13 (an [3, 6, 72, 73, 74]) [] [(.loc 6 1, sh_TRr), (.loc 72 0, .any)] X_fb_13 (fun x => [(Ch e_TRs) x.Eh, (V.ptr (.loc 6 1) []), (V.own (.loc 72 0) [] 1 x.Es.AA.AD.n 0 x.Es.AA.AD.n), (V.int .i64) x.RR, (V.int .i64) x.NS, V.cons (V.cons ((V.int .u64) x.Es.AA.tail) (V.cons (V.CB (.loc 72 0) 36 1 x.Es.AA.AD.nil x.Es.AA.AD.n) (V.unit))) (V.cons (ebox_TSs x.Es.s) (V.cons ((V.int .u64) x.Es.most) (V.cons (V.bool x.Es.closed) (V.unit)))), (V.arr 1 x.Es.AA.AD.n fun i => (V.int .u64) (x.Es.AA.AD.get i))]) fun l => ⟨(Ci d_TRs) (at_ l 0), dI (at_ l 3), dI (at_ l 4), { d_TRr (at_ l 5) with AA.AD := ⟨(SP (fd (fd (at_ l 5) 0) 1)).nil, (SP (fd (fd (at_ l 5) 0) 1)).n, (R6 dI (at_ l 6)).get⟩ }⟩
structure X_fb_14 where
 Eh : TRs
 Es : TRr
def S_fb_14 : AO :=
 Ad Tryz.f57 14 (an [3, 6]) [] [(.loc 6 1, sh_TRr)] X_fb_14 (fun x => [(Ch e_TRs) x.Eh, (V.ptr (.loc 6 1) []), e_TRr x.Es]) fun l => ⟨(Ci d_TRs) (at_ l 0), d_TRr (at_ l 2)⟩
structure X_fb_15 where
 Qc : (Sl TSo)
 Sq : Int
 Oc : Int
 Es : TRr
def S_fb_15 : AO :=
 Ad Tryz.f57 15 [(6, .any), (101, hsl_TSo), (102, .any), (103, .any)] [] [(.loc 6 1, sh_TRr)] X_fb_15 (fun x => [(V.ptr (.loc 6 1) []), esl_TSo x.Qc, (V.int .i64) x.Sq, (V.int .i64) x.Oc, e_TRr x.Es]) fun l => ⟨dsl_TSo (at_ l 1), dI (at_ l 2), dI (at_ l 3), d_TRr (at_ l 4)⟩
def tt_fb_15 (D_fb_15 : AU X_fb_15 R_fb) (x : X_fb_15) : TT Tryz.prog R_fb :=
 (.ite (Bq x.Oc x.Sq)
 (.need (A6 x.Oc x.Qc.n) <|
 (.call con_f0 ((x.Qc.get (Int.toNat x.Oc)), x.Es) fun (y2 : R_f0) =>
 (.ite (!y2)
 (.ret ((Bx.mk true (TRr.mk (TRc.mk 0 (Sl.mk true 0 (fun _i3 => (0 : Int)))) (Bx.mk true (TSs.mk (Sl.mk true 0 (fun _i3 => (TSo.mk 0 0 0))) 0)) 0 false)), 3))
 (.AM S_fb_15 D_fb_15 (X_fb_15.mk x.Qc x.Sq (IntKind.i64.wrap (x.Oc + 1)) x.Es)))))
 (.ret ((Bx.mk false x.Es), 0)))
theorem sd_fb_15 (D_fb_15 : AU X_fb_15 R_fb) (x : X_fb_15) : (tt_fb_15 D_fb_15 x).AJ :=
 (TT.sI (TT.sN (TT.sC fun _ => (TT.sI TT.sR TT.sJ))) TT.sR)
def D_fb_15 : AU X_fb_15 R_fb := AU.loop tt_fb_15
theorem ok_fb_15 : AY J_fb S_fb_15 D_fb_15 :=
 A8 fun D_fb_15 h_15 => lk mxk (lbc h_15 rfl lbn) (sd_fb_15 D_fb_15)
def tt_fb_14 (x : X_fb_14) : TT Tryz.prog R_fb :=
 (.AM S_fb_15 D_fb_15 (X_fb_15.mk x.Eh.Al ((x.Eh.Al.n : Nat) : Int) 0 x.Es))
theorem sd_fb_14 (x : X_fb_14) : (tt_fb_14 x).AJ :=
 TT.sJ
def D_fb_14 : AU X_fb_14 R_fb := .of tt_fb_14
theorem ok_fb_14 : AY J_fb S_fb_14 D_fb_14 :=
 lk mxk (lbc ok_fb_15 rfl lbn) sd_fb_14
def tt_fb_13 (D_fb_9 : AU X_fb_9 R_fb) (x : X_fb_13) : TT Tryz.prog R_fb :=
 (.AM S_fb_9 D_fb_9 (X_fb_9.mk x.Eh x.RR (IntKind.i64.wrap (x.NS + 1)) x.Es))
theorem sd_fb_13 (D_fb_9 : AU X_fb_9 R_fb) (x : X_fb_13) : (tt_fb_13 D_fb_9 x).AJ :=
 TT.sJ
def D_fb_13 (D_fb_9 : AU X_fb_9 R_fb) : AU X_fb_13 R_fb := .of (tt_fb_13 D_fb_9)
theorem ok_fb_13 (D_fb_9 : AU X_fb_9 R_fb) (h_9 : AY J_fb S_fb_9 D_fb_9) : AY J_fb S_fb_13 (D_fb_13 D_fb_9) :=
 lk mxk (lbc h_9 rfl (lbc ok_fb_15 rfl (lbc ok_fb_14 rfl lbn))) (sd_fb_13 D_fb_9)
def tt_fb_9 (D_fb_9 : AU X_fb_9 R_fb) (x : X_fb_9) : TT Tryz.prog R_fb :=
 (.ite (Bq x.NS x.RR)
 (.need (A6 x.NS x.Es.AA.AD.n) <|
 (.need ((Nat.beq x.Es.AA.AD.n x.Es.AA.AD.n) && true) <|
 (.ite (Bq x.Es.AA.tail (x.Es.AA.AD.get ((0 : Nat) + (Int.toNat x.NS))))
 (.need ((true && true) && (Nat.beq x.Es.AA.AD.n x.Es.AA.AD.n)) <|
 (.ret ((Bx.mk true (TRr.mk (TRc.mk 0 (Sl.mk true 0 (fun _i2 => (0 : Int)))) (Bx.mk true (TSs.mk (Sl.mk true 0 (fun _i2 => (TSo.mk 0 0 0))) 0)) 0 false)), 3)))
 (.ite (Bq x.Es.most (IntKind.u64.wrap (x.Es.AA.tail - (x.Es.AA.AD.get ((0 : Nat) + (Int.toNat x.NS))))))
 (.need ((true && true) && (Nat.beq x.Es.AA.AD.n x.Es.AA.AD.n)) <|
 (.ret ((Bx.mk true (TRr.mk (TRc.mk 0 (Sl.mk true 0 (fun _i2 => (0 : Int)))) (Bx.mk true (TSs.mk (Sl.mk true 0 (fun _i2 => (TSo.mk 0 0 0))) 0)) 0 false)), 3)))
 (.AM S_fb_13 (D_fb_13 D_fb_9) (X_fb_13.mk x.Eh x.RR x.NS x.Es))))))
 (.need ((true && true) && (Nat.beq x.Es.AA.AD.n x.Es.AA.AD.n)) <|
 (.AM S_fb_14 D_fb_14 (X_fb_14.mk x.Eh x.Es))))
theorem sd_fb_9 (D_fb_9 : AU X_fb_9 R_fb) (x : X_fb_9) : (tt_fb_9 D_fb_9 x).AJ :=
 (TT.sI (TT.sN (TT.sN (TT.sI (TT.sN TT.sR) (TT.sI (TT.sN TT.sR) TT.sJ)))) (TT.sN TT.sJ))
def D_fb_9 : AU X_fb_9 R_fb := AU.loop tt_fb_9
theorem ok_fb_9 : AY J_fb S_fb_9 D_fb_9 :=
 A8 fun D_fb_9 h_9 => lk mxk (lbc h_9 rfl (lbc ok_fb_15 rfl (lbc ok_fb_14 rfl (lbc (ok_fb_13 D_fb_9 h_9) rfl lbn)))) (sd_fb_9 D_fb_9)
def tt_fb_7 (x : X_fb_7) : TT Tryz.prog R_fb :=
 (.call con_f1x x.Eh.AV fun (y1 : R_f1x) =>
 (.AM S_fb_9 D_fb_9 (X_fb_9.mk x.Eh ((y1.n : Nat) : Int) 0 (TRr.mk (TRc.mk x.Eh.A0 y1) x.l_8 x.Es.most x.Eh.As))))
theorem sd_fb_7 (x : X_fb_7) : (tt_fb_7 x).AJ :=
 (TT.sC fun _ => TT.sJ)
def D_fb_7 : AU X_fb_7 R_fb := .of tt_fb_7
theorem ok_fb_7 : AY J_fb S_fb_7 D_fb_7 :=
 lk mxk (lbc ok_fb_15 rfl (lbc ok_fb_14 rfl (lbc ok_fb_9 rfl lbn))) sd_fb_7
def tt_fb (x : X_fb) : TT Tryz.prog R_fb :=
 (.call con_f2r x.fst fun (y1 : R_f2r) =>
 (.ite (!(AW y1.snd 0))
 (.ret ((Bx.mk true (TRr.mk (TRc.mk 0 (Sl.mk true 0 (fun _i2 => (0 : Int)))) (Bx.mk true (TSs.mk (Sl.mk true 0 (fun _i2 => (TSo.mk 0 0 0))) 0)) 0 false)), y1.snd))
 (.call con_fx (x.fst.DP, (x.fst.AR, x.snd.Al)) fun (y2 : R_fx) =>
 (.ite (!(AW y2.snd 0))
 (.ret ((Bx.mk true (TRr.mk (TRc.mk 0 (Sl.mk true 0 (fun _i3 => (0 : Int)))) (Bx.mk true (TSs.mk (Sl.mk true 0 (fun _i3 => (TSo.mk 0 0 0))) 0)) 0 false)), 3))
 (.ite (!(AW ((x.snd.AV.n : Nat) : Int) x.fst.AR))
 (.ret ((Bx.mk true (TRr.mk (TRc.mk 0 (Sl.mk true 0 (fun _i3 => (0 : Int)))) (Bx.mk true (TSs.mk (Sl.mk true 0 (fun _i3 => (TSo.mk 0 0 0))) 0)) 0 false)), 3))
 (.ite (Bw 4611686018427387904 x.snd.A0)
 (.ret ((Bx.mk true (TRr.mk (TRc.mk 0 (Sl.mk true 0 (fun _i3 => (0 : Int)))) (Bx.mk true (TSs.mk (Sl.mk true 0 (fun _i3 => (TSo.mk 0 0 0))) 0)) 0 false)), 3))
 (.need (!y1.fst.nil) <|
 (.AM S_fb_7 D_fb_7 (X_fb_7.mk x.snd y2.fst y1.fst.x)))))))))
theorem sd_fb (x : X_fb) : (tt_fb x).AJ :=
 (TT.sC fun _ => (TT.sI TT.sR (TT.sC fun _ => (TT.sI TT.sR (TT.sI TT.sR (TT.sI TT.sR (TT.sN TT.sJ)))))))
def D_fb : AU X_fb R_fb := .of tt_fb
def con_fb : BE Tryz.prog :=
 B2 57 J_fb S_fb D_fb 2 0 [.any, sh_TRs] (lk mxk (lbc ok_fb_15 rfl (lbc ok_fb_14 rfl (lbc ok_fb_9 rfl (lbc ok_fb_7 rfl lbn)))) sd_fb)
abbrev X_ff : Type := Int × TFa
abbrev R_ff : Type := (Bx TRr)
abbrev RR_ff : Type := (Bx TRr) × TFa
abbrev p_ff (y : RR_ff) : TFa := y.2
abbrev w_ff (x : X_ff) : TFa := x.2
def J_ff : BM Tryz.prog :=
 BS Tryz.prog Tryz.f80 43 [(22, 1), (42, 1)] [(2, [.back (.loc 18 0)]), (3, [.back (.loc 18 0)]), (4, [.back (.loc 37 0), .back (.loc 34 0), .back (.loc 18 0)])] [(3, [.Ia (.par 0) [.CI 2 3] 34])] [.back (.loc 37 0), .back (.loc 34 0), .back (.loc 18 0), .E0 4] [hbox_TRr] [sh_TFa] [con_fb, con_f1l] RR_ff [(0, [⟨.loc 34 0, .par 0, [.CI 2 3], none, none⟩]), (3, [⟨.loc 34 0, .par 0, [.CI 2 3], none, none⟩])] fun y => [ebox_TRr y.1, e_TFa y.2]
def S_ff : AO :=
 Aj Tryz.f80 2 1 X_ff (fun x => [(V.ptr (.par 0) []), (V.int .i64) x.1, e_TFa x.2]) fun l => (dI (at_ l 1), d_TFa (at_ l 2))
structure X_ff_3 where
 GP : Int
 Ah : TFa
def S_ff_3 : AO :=
 Ad Tryz.f80 3 (an [0, 1]) [sh_TFa] [] X_ff_3 (fun x => [(V.ptr (.par 0) []), (V.int .i64) x.GP, e_TFa x.Ah]) fun l => ⟨dI (at_ l 1), d_TFa (at_ l 2)⟩
abbrev w_ff_3 (x : X_ff_3) : TFa := (x.Ah)
def tt_ff_3 (x : X_ff_3) : TT Tryz.prog RR_ff :=
 (.need (A6 x.GP x.Ah.p.AF.n) <|
 (.need (A6 x.GP x.Ah.rings.n) <|
 (.need (((Nat.beq x.Ah.rings.n x.Ah.rings.n) && true) && (!(x.Ah.rings.get ((0 : Nat) + (Int.toNat x.GP))).nil)) <|
 (.call con_f1l (x.Ah.rings.get ((0 : Nat) + (Int.toNat x.GP))).x fun (y1 : R_f1l) =>
 (.call con_fb ((x.Ah.p.AF.get (Int.toNat x.GP)), y1) fun (y2 : R_fb) =>
 (.need ((true && true) && (((Nat.beq x.Ah.rings.n x.Ah.rings.n) && (Nat.blt ((0 : Nat) + (Int.toNat x.GP)) x.Ah.rings.n)) && (!(x.Ah.rings.get ((0 : Nat) + (Int.toNat x.GP))).nil))) <|
 (.side (((fun v : Nat → V => v = v) (fun i3 => (cond (Nat.beq i3 ((0 : Nat) + (Int.toNat x.GP))) (V.ptr (Id.loc 37 0) List.nil) (V.Am (x.Ah.rings.get i3).nil (V.cons (V.cons (V.int IntKind.u64 (x.Ah.rings.get i3).x.AA.tail) (V.cons (V.BA 36 1 (x.Ah.rings.get i3).x.AA.AD.nil (x.Ah.rings.get i3).x.AA.AD.n (fun i4 => (V.int IntKind.u64 ((x.Ah.rings.get i3).x.AA.AD.get i4)))) V.unit)) (V.cons (V.Am (x.Ah.rings.get i3).x.s.nil (V.cons (V.BA 175 3 (x.Ah.rings.get i3).x.s.x.l.nil (x.Ah.rings.get i3).x.s.x.l.n (fun i4 => (V.cons (V.int IntKind.u64 ((x.Ah.rings.get i3).x.s.x.l.get i4).AP) (V.cons (V.int IntKind.u64 ((x.Ah.rings.get i3).x.s.x.l.get i4).Value) (V.cons (V.int IntKind.i64 ((x.Ah.rings.get i3).x.s.x.l.get i4).Left) V.unit))))) (V.cons (V.int IntKind.i64 (x.Ah.rings.get i3).x.s.x.AX) V.unit))) (V.cons (V.int IntKind.u64 (x.Ah.rings.get i3).x.most) (V.cons (V.bool (x.Ah.rings.get i3).x.closed) V.unit)))))))) ∧ (((fun v : V => v = v) (V.cons (V.cons (V.int IntKind.u64 (x.Ah.rings.get ((0 : Nat) + (Int.toNat x.GP))).x.AA.tail) (V.cons (V.BA 36 1 (x.Ah.rings.get ((0 : Nat) + (Int.toNat x.GP))).x.AA.AD.nil (x.Ah.rings.get ((0 : Nat) + (Int.toNat x.GP))).x.AA.AD.n (fun i3 => (V.int IntKind.u64 ((x.Ah.rings.get ((0 : Nat) + (Int.toNat x.GP))).x.AA.AD.get i3)))) V.unit)) (V.cons (V.Am (x.Ah.rings.get ((0 : Nat) + (Int.toNat x.GP))).x.s.nil (V.cons (V.BA 175 3 (x.Ah.rings.get ((0 : Nat) + (Int.toNat x.GP))).x.s.x.l.nil (x.Ah.rings.get ((0 : Nat) + (Int.toNat x.GP))).x.s.x.l.n (fun i3 => (V.cons (V.int IntKind.u64 ((x.Ah.rings.get ((0 : Nat) + (Int.toNat x.GP))).x.s.x.l.get i3).AP) (V.cons (V.int IntKind.u64 ((x.Ah.rings.get ((0 : Nat) + (Int.toNat x.GP))).x.s.x.l.get i3).Value) (V.cons (V.int IntKind.i64 ((x.Ah.rings.get ((0 : Nat) + (Int.toNat x.GP))).x.s.x.l.get i3).Left) V.unit))))) (V.cons (V.int IntKind.i64 (x.Ah.rings.get ((0 : Nat) + (Int.toNat x.GP))).x.s.x.AX) V.unit))) (V.cons (V.int IntKind.u64 (x.Ah.rings.get ((0 : Nat) + (Int.toNat x.GP))).x.most) (V.cons (V.bool (x.Ah.rings.get ((0 : Nat) + (Int.toNat x.GP))).x.closed) V.unit))))) ∧ ((fun v : V => v = v) (V.Am (x.Ah.rings.get ((0 : Nat) + (Int.toNat x.GP))).nil (V.cons (V.cons (V.int IntKind.u64 (x.Ah.rings.get ((0 : Nat) + (Int.toNat x.GP))).x.AA.tail) (V.cons (V.BA 36 1 (x.Ah.rings.get ((0 : Nat) + (Int.toNat x.GP))).x.AA.AD.nil (x.Ah.rings.get ((0 : Nat) + (Int.toNat x.GP))).x.AA.AD.n (fun i3 => (V.int IntKind.u64 ((x.Ah.rings.get ((0 : Nat) + (Int.toNat x.GP))).x.AA.AD.get i3)))) V.unit)) (V.cons (V.Am (x.Ah.rings.get ((0 : Nat) + (Int.toNat x.GP))).x.s.nil (V.cons (V.BA 175 3 (x.Ah.rings.get ((0 : Nat) + (Int.toNat x.GP))).x.s.x.l.nil (x.Ah.rings.get ((0 : Nat) + (Int.toNat x.GP))).x.s.x.l.n (fun i3 => (V.cons (V.int IntKind.u64 ((x.Ah.rings.get ((0 : Nat) + (Int.toNat x.GP))).x.s.x.l.get i3).AP) (V.cons (V.int IntKind.u64 ((x.Ah.rings.get ((0 : Nat) + (Int.toNat x.GP))).x.s.x.l.get i3).Value) (V.cons (V.int IntKind.i64 ((x.Ah.rings.get ((0 : Nat) + (Int.toNat x.GP))).x.s.x.l.get i3).Left) V.unit))))) (V.cons (V.int IntKind.i64 (x.Ah.rings.get ((0 : Nat) + (Int.toNat x.GP))).x.s.x.AX) V.unit))) (V.cons (V.int IntKind.u64 (x.Ah.rings.get ((0 : Nat) + (Int.toNat x.GP))).x.most) (V.cons (V.bool (x.Ah.rings.get ((0 : Nat) + (Int.toNat x.GP))).x.closed) V.unit)))))))) <|
 (.need ((true && true) && (Nat.beq x.Ah.rings.n x.Ah.rings.n)) <|
 (.ret (y2.fst, x.Ah))))))))))
theorem sd_ff_3 (x : X_ff_3) : (tt_ff_3 x).AJ :=
 (TT.sN (TT.sN (TT.sN (TT.sC fun _ => (TT.sC fun _ => (TT.sN (TT.sS ⟨rfl, ⟨rfl, rfl⟩⟩ (TT.sN TT.sR))))))))
theorem roT_ff_3 (x : X_ff_3) : TT.Ro p_ff (w_ff_3 x) (tt_ff_3 x) :=
 (TT.rN (TT.rN (TT.rN (TT.rC fun _ => (TT.rC fun _ => (TT.rN (TT.rS (TT.rN (TT.rR rfl)))))))))
def D_ff_3 : AU X_ff_3 RR_ff := .of tt_ff_3
theorem ok_ff_3 : AY J_ff S_ff_3 D_ff_3 :=
 lk mxk lbn sd_ff_3
theorem ro_ff_3 : ∀ x y, D_ff_3.rel x y → p_ff y = w_ff_3 x :=
 roT_ff_3 
def tt_ff (x : X_ff) : TT Tryz.prog RR_ff :=
 (.ite (Bq x.fst 0)
 (.ret ((Bx.mk true (TRr.mk (TRc.mk 0 (Sl.mk true 0 (fun _i1 => (0 : Int)))) (Bx.mk true (TSs.mk (Sl.mk true 0 (fun _i1 => (TSo.mk 0 0 0))) 0)) 0 false)), x.snd))
 (.ite (Bw ((x.snd.rings.n : Nat) : Int) x.fst)
 (.need ((true && true) && (Nat.beq x.snd.rings.n x.snd.rings.n)) <|
 (.ret ((Bx.mk true (TRr.mk (TRc.mk 0 (Sl.mk true 0 (fun _i1 => (0 : Int)))) (Bx.mk true (TSs.mk (Sl.mk true 0 (fun _i1 => (TSo.mk 0 0 0))) 0)) 0 false)), x.snd)))
 (.need ((true && true) && (Nat.beq x.snd.rings.n x.snd.rings.n)) <|
 (.AM S_ff_3 D_ff_3 (X_ff_3.mk x.fst x.snd)))))
theorem sd_ff (x : X_ff) : (tt_ff x).AJ :=
 (TT.sI TT.sR (TT.sI (TT.sN TT.sR) (TT.sN TT.sJ)))
theorem roT_ff (x : X_ff) : TT.Ro p_ff (w_ff x) (tt_ff x) :=
 (TT.rI (TT.rR rfl) (TT.rI (TT.rN (TT.rR rfl)) (TT.rN (TT.rJ (ro_ff_3 _)))))
def D_ff : AU X_ff R_ff := .ro (.of tt_ff) (fun y => (y.1)) (fun y x => (y, x.2)) fun x y h => congrArg (fun o => (y.1, o)) (roT_ff x y h)
def con_ff : BE Tryz.prog :=
 Di 80 J_ff S_ff (.of tt_ff) D_ff (fun y x => (y, x.2)) (fun y => ebox_TRr y) 2 1 [.any, .any] (lk mxk (lbc ok_ff_3 rfl lbn) sd_ff) (fun x => ⟨(nu_e_TFa : ∀ y, (e_TFa y).Cl) (x.2), trivial⟩)
abbrev X_fy : Type := Int × TRc
abbrev R_fy : Type := Bool
abbrev RR_fy : Type := Bool × TRc
abbrev p_fy (y : RR_fy) : TRc := y.2
abbrev w_fy (x : X_fy) : TRc := x.2
def J_fy : BM Tryz.prog :=
 BS Tryz.prog Tryz.f154 16 [] [] [] [.back (.loc 12 0)] [.any] [sh_TRc] [] RR_fy [] fun y => [V.bool y.1, e_TRc y.2]
def S_fy : AO :=
 Aj Tryz.f154 2 1 X_fy (fun x => [(V.ptr (.par 0) []), (V.int .i64) x.1, e_TRc x.2]) fun l => (dI (at_ l 1), d_TRc (at_ l 2))
def tt_fy (x : X_fy) : TT Tryz.prog RR_fy :=
 (.ite (Bw 0 x.fst)
 (.need ((true && true) && (Nat.beq x.snd.AD.n x.snd.AD.n)) <|
 (.ret ((Bq x.fst ((x.snd.AD.n : Nat) : Int)), x.snd)))
 (.ret (false, x.snd)))
theorem sd_fy (x : X_fy) : (tt_fy x).AJ :=
 (TT.sI (TT.sN TT.sR) TT.sR)
theorem roT_fy (x : X_fy) : TT.Ro p_fy (w_fy x) (tt_fy x) :=
 (TT.rI (TT.rN (TT.rR rfl)) (TT.rR rfl))
def D_fy : AU X_fy R_fy := .ro (.of tt_fy) (fun y => (y.1)) (fun y x => (y, x.2)) fun x y h => congrArg (fun o => (y.1, o)) (roT_fy x y h)
def con_fy : BE Tryz.prog :=
 Di 154 J_fy S_fy (.of tt_fy) D_fy (fun y x => (y, x.2)) (fun y => V.bool y) 2 1 [.any, .any] (lk mxk lbn sd_fy) (fun x => ⟨(nu_e_TRc : ∀ y, (e_TRc y).Cl) (x.2), trivial⟩)
structure TRc_L1 where
 tail : Int
 AD : Ln
def d_TRc_L1 (v : V) : TRc_L1 :=
 ⟨dI (fd v 0), SP (fd v 1)⟩
def e_TRc_L1_1 (x : TRc_L1) : V :=
 V.cons ((V.int .u64) x.tail) (V.cons ((eLn (.par 1) 36 1) x.AD) (V.unit))
theorem nu_e_TRc_L1_1 (x : TRc_L1) : (e_TRc_L1_1 x).Cl := ⟨trivial, trivial, trivial⟩
abbrev X_f14 : Type := Int × TRc_L1 × (Ar Int)
abbrev R_f14 : Type := Bool
abbrev RR_f14 : Type := Bool × TRc_L1 × (Ar Int)
abbrev p_f14 (y : RR_f14) : TRc_L1 × (Ar Int) := y.2
abbrev w_f14 (x : X_f14) : TRc_L1 × (Ar Int) := x.2
def J_f14 : BM Tryz.prog :=
 BS Tryz.prog Tryz.f154 16 [] [] [] [] [.any] [.any, .any] [] RR_f14 [] fun y => [V.bool y.1, e_TRc_L1_1 y.2.1, (Mv 1 (V.int .u64)) y.2.2]
def S_f14 : AO :=
 Aj Tryz.f154 2 2 X_f14 (fun x => [(V.ptr (.par 0) []), (V.int .i64) x.1, e_TRc_L1_1 x.2.1, (Mv 1 (V.int .u64)) x.2.2]) fun l => (dI (at_ l 1), d_TRc_L1 (at_ l 2), (R6 dI) (at_ l 3))
def tt_f14 (x : X_f14) : TT Tryz.prog RR_f14 :=
 (.ite (Bw 0 x.fst)
 (.ret ((Bq x.fst ((x.snd.fst.AD.n : Nat) : Int)), x.snd))
 (.ret (false, x.snd)))
theorem sd_f14 (x : X_f14) : (tt_f14 x).AJ :=
 (TT.sI TT.sR TT.sR)
theorem roT_f14 (x : X_f14) : TT.Ro p_f14 (w_f14 x) (tt_f14 x) :=
 (TT.rI (TT.rR rfl) (TT.rR rfl))
def D_f14 : AU X_f14 R_f14 := .ro (.of tt_f14) (fun y => (y.1)) (fun y x => (y, x.2)) fun x y h => congrArg (fun o => (y.1, o)) (roT_f14 x y h)
def con_f14 : BE Tryz.prog :=
 Di 154 J_f14 S_f14 (.of tt_f14) D_f14 (fun y x => (y, x.2)) (fun y => V.bool y) 2 2 [.any, .any] (lk mxk lbn sd_f14) (fun x => ⟨(nu_e_TRc_L1_1 : ∀ y, (e_TRc_L1_1 y).Cl) (x.2.1), (fun _ _ => trivial : ∀ y, ((Mv 1 (V.int .u64)) y).Cl) (x.2.2), trivial⟩)
abbrev X_f18 : Type := Int × TRr
abbrev R_f18 : Type := Bool
abbrev RR_f18 : Type := Bool × TRr
abbrev p_f18 (y : RR_f18) : TRr := y.2
abbrev w_f18 (x : X_f18) : TRr := x.2
def J_f18 : BM Tryz.prog :=
 BS Tryz.prog Tryz.f134 31 [] [] [(1, [.Ia (.par 0) [.CI 0 0, .CI 1 1] 12, .Ia (.par 0) [.CI 0 0, .CI 1 1] 19])] [.back (.loc 19 0), .back (.loc 12 0)] [.any] [sh_TRr] [con_f14] RR_f18 [(0, [⟨.loc 12 0, .par 0, [.CI 0 0, .CI 1 1], none, none⟩, ⟨.loc 19 0, .par 0, [.CI 0 0, .CI 1 1], none, none⟩])] fun y => [V.bool y.1, e_TRr y.2]
def S_f18 : AO :=
 Aj Tryz.f134 2 1 X_f18 (fun x => [(V.ptr (.par 0) []), (V.int .i64) x.1, e_TRr x.2]) fun l => (dI (at_ l 1), d_TRr (at_ l 2))
def tt_f18 (x : X_f18) : TT Tryz.prog RR_f18 :=
 (.call con_f14 (x.fst, ((TRc_L1.mk x.snd.AA.tail (Ln.mk x.snd.AA.AD.nil x.snd.AA.AD.n)), (Ar.mk x.snd.AA.AD.n x.snd.AA.AD.get))) fun (y1 : R_f14) =>
 (.ite (!y1)
 (.need ((true && true) && (Nat.beq x.snd.AA.AD.n x.snd.AA.AD.n)) <|
 (.ret (true, x.snd)))
 (.need (A6 x.fst x.snd.AA.AD.n) <|
 (.need ((Nat.beq x.snd.AA.AD.n x.snd.AA.AD.n) && true) <|
 (.need ((true && true) && (Nat.beq x.snd.AA.AD.n x.snd.AA.AD.n)) <|
 (.ret ((AW (x.snd.AA.AD.get ((0 : Nat) + (Int.toNat x.fst))) x.snd.AA.tail), x.snd)))))))
theorem sd_f18 (x : X_f18) : (tt_f18 x).AJ :=
 (TT.sC fun _ => (TT.sI (TT.sN TT.sR) (TT.sN (TT.sN (TT.sN TT.sR)))))
theorem roT_f18 (x : X_f18) : TT.Ro p_f18 (w_f18 x) (tt_f18 x) :=
 (TT.rC fun _ => (TT.rI (TT.rN (TT.rR rfl)) (TT.rN (TT.rN (TT.rN (TT.rR rfl))))))
def D_f18 : AU X_f18 R_f18 := .ro (.of tt_f18) (fun y => (y.1)) (fun y x => (y, x.2)) fun x y h => congrArg (fun o => (y.1, o)) (roT_f18 x y h)
def con_f18 : BE Tryz.prog :=
 Di 134 J_f18 S_f18 (.of tt_f18) D_f18 (fun y x => (y, x.2)) (fun y => V.bool y) 2 1 [.any, .any] (lk mxk lbn sd_f18) (fun x => ⟨(nu_e_TRr : ∀ y, (e_TRr y).Cl) (x.2), trivial⟩)
abbrev X_f15 : Type := TRr
abbrev R_f15 : Type := Bool
abbrev RR_f15 : Type := Bool × TRr
abbrev p_f15 (y : RR_f15) : TRr := y.2
abbrev w_f15 (x : X_f15) : TRr := x
def J_f15 : BM Tryz.prog :=
 BS Tryz.prog Tryz.f115 11 [] [] [] [] [.any] [sh_TRr] [] RR_f15 [] fun y => [V.bool y.1, e_TRr y.2]
def S_f15 : AO :=
 Aj Tryz.f115 1 1 X_f15 (fun x => [(V.ptr (.par 0) []), e_TRr x]) fun l => (d_TRr (at_ l 1))
def tt_f15 (x : X_f15) : TT Tryz.prog RR_f15 :=
 (.ret (x.closed, x))
theorem sd_f15 (x : X_f15) : (tt_f15 x).AJ :=
 TT.sR
theorem roT_f15 (x : X_f15) : TT.Ro p_f15 (w_f15 x) (tt_f15 x) :=
 (TT.rR rfl)
def D_f15 : AU X_f15 R_f15 := .ro (.of tt_f15) (fun y => (y.1)) (fun y x => (y, x)) fun x y h => congrArg (fun o => (y.1, o)) (roT_f15 x y h)
def con_f15 : BE Tryz.prog :=
 Di 115 J_f15 S_f15 (.of tt_f15) D_f15 (fun y x => (y, x)) (fun y => V.bool y) 1 1 [.any] (lk mxk lbn sd_f15) (fun x => ⟨(nu_e_TRr : ∀ y, (e_TRr y).Cl) (x), trivial⟩)
abbrev X_f4 : Type := (Ar Int)
abbrev R_f4 : Type := Int
abbrev RR_f4 : Type := Int × (Ar Int)
abbrev p_f4 (y : RR_f4) : (Ar Int) := y.2
abbrev w_f4 (x : X_f4) : (Ar Int) := x
def J_f4 : BM Tryz.prog :=
 BS Tryz.prog Tryz.f198 25 [] [] [] [] [.any] [.any] [] RR_f4 [] fun y => [(V.int .u64) y.1, (Mv 1 (V.int .u64)) y.2]
def S_f4 : AO :=
 Aj Tryz.f198 1 1 X_f4 (fun x => [(V.own (.par 0) [] 1 x.n 0 x.n), (Mv 1 (V.int .u64)) x]) fun l => ((R6 dI) (at_ l 1))
structure X_f4_3 where
 Ah : (Ar Int)
def S_f4_3 : AO :=
 Ad Tryz.f198 3 [(0, .any)] [.any] [] X_f4_3 (fun x => [(V.own (.par 0) [] 1 x.Ah.n 0 x.Ah.n), (Mv 1 (V.int .u64)) x.Ah]) fun l => ⟨(R6 dI) (at_ l 1)⟩
structure X_f4_5 where
 BC : Int
 EA : Int
 Ah : (Ar Int)
def S_f4_5 : AO :=
 Ad Tryz.f198 5 (an [0, 3, 4]) [.any] [] X_f4_5 (fun x => [(V.own (.par 0) [] 1 x.Ah.n 0 x.Ah.n), (V.int .u64) x.BC, (V.int .i64) x.EA, (Mv 1 (V.int .u64)) x.Ah]) fun l => ⟨dI (at_ l 1), dI (at_ l 2), (R6 dI) (at_ l 3)⟩
abbrev w_f4_3 (x : X_f4_3) : (Ar Int) := (x.Ah)
abbrev w_f4_5 (x : X_f4_5) : (Ar Int) := (x.Ah)
def tt_f4_5 (D_f4_5 : AU X_f4_5 RR_f4) (x : X_f4_5) : TT Tryz.prog RR_f4 :=
 (.ite (Bq x.EA ((x.Ah.n : Nat) : Int))
 (.need (A6 x.EA x.Ah.n) <|
 (.need ((Nat.beq x.Ah.n x.Ah.n) && true) <|
 (.AM S_f4_5 D_f4_5 (X_f4_5.mk (Oz x.BC (x.Ah.get ((0 : Nat) + (Int.toNat x.EA)))) (IntKind.i64.wrap (x.EA + 1)) x.Ah))))
 (.ret (x.BC, x.Ah)))
theorem sd_f4_5 (D_f4_5 : AU X_f4_5 RR_f4) (x : X_f4_5) : (tt_f4_5 D_f4_5 x).AJ :=
 (TT.sI (TT.sN (TT.sN TT.sJ)) TT.sR)
theorem roT_f4_5 (D_f4_5 : AU X_f4_5 RR_f4) (r5 : ∀ x y, D_f4_5.rel x y → p_f4 y = w_f4_5 x) (x : X_f4_5) : TT.Ro p_f4 (w_f4_5 x) (tt_f4_5 D_f4_5 x) :=
 (TT.rI (TT.rN (TT.rN (TT.rJ (r5 _)))) (TT.rR rfl))
def D_f4_5 : AU X_f4_5 RR_f4 := AU.loop tt_f4_5
theorem ok_f4_5 : AY J_f4 S_f4_5 D_f4_5 :=
 A8 fun D_f4_5 h_5 => lk mxk (lbc h_5 rfl lbn) (sd_f4_5 D_f4_5)
theorem ro_f4_5 : ∀ x y, D_f4_5.rel x y → p_f4 y = w_f4_5 x :=
 Kh fun D_f4_5 r5 => roT_f4_5 D_f4_5 r5
def tt_f4_3 (x : X_f4_3) : TT Tryz.prog RR_f4 :=
 (.need (A6 0 x.Ah.n) <|
 (.need ((Nat.beq x.Ah.n x.Ah.n) && true) <|
 (.AM S_f4_5 D_f4_5 (X_f4_5.mk (x.Ah.get ((0 : Nat) + (Int.toNat 0))) 1 x.Ah))))
theorem sd_f4_3 (x : X_f4_3) : (tt_f4_3 x).AJ :=
 (TT.sN (TT.sN TT.sJ))
theorem roT_f4_3 (x : X_f4_3) : TT.Ro p_f4 (w_f4_3 x) (tt_f4_3 x) :=
 (TT.rN (TT.rN (TT.rJ (ro_f4_5 _))))
def D_f4_3 : AU X_f4_3 RR_f4 := .of tt_f4_3
theorem ok_f4_3 : AY J_f4 S_f4_3 D_f4_3 :=
 lk mxk (lbc ok_f4_5 rfl lbn) sd_f4_3
theorem ro_f4_3 : ∀ x y, D_f4_3.rel x y → p_f4 y = w_f4_3 x :=
 roT_f4_3 
def tt_f4 (x : X_f4) : TT Tryz.prog RR_f4 :=
 (.ite (Bq ((x.n : Nat) : Int) 1)
 .fail
 (.AM S_f4_3 D_f4_3 (X_f4_3.mk x)))
theorem sd_f4 (x : X_f4) : (tt_f4 x).AJ :=
 (TT.sI TT.VB TT.sJ)
theorem roT_f4 (x : X_f4) : TT.Ro p_f4 (w_f4 x) (tt_f4 x) :=
 (TT.rI TT.T7 (TT.rJ (ro_f4_3 _)))
def D_f4 : AU X_f4 R_f4 := .ro (.of tt_f4) (fun y => (y.1)) (fun y x => (y, x)) fun x y h => congrArg (fun o => (y.1, o)) (roT_f4 x y h)
def con_f4 : BE Tryz.prog :=
 Di 198 J_f4 S_f4 (.of tt_f4) D_f4 (fun y x => (y, x)) (fun y => (V.int .u64) y) 1 1 [.any] (lk mxk (lbc ok_f4_5 rfl (lbc ok_f4_3 rfl lbn)) sd_f4) (fun x => ⟨(fun _ _ => trivial : ∀ y, ((Mv 1 (V.int .u64)) y).Cl) (x), trivial⟩)
abbrev X_f1i : Type := TRc
abbrev R_f1i : Type := Int
abbrev RR_f1i : Type := Int × TRc
abbrev p_f1i (y : RR_f1i) : TRc := y.2
abbrev w_f1i (x : X_f1i) : TRc := x
def J_f1i : BM Tryz.prog :=
 BS Tryz.prog Tryz.f173 8 [] [] [] [.back (.loc 6 0)] [.any] [sh_TRc] [con_f4] RR_f1i [] fun y => [(V.int .u64) y.1, e_TRc y.2]
def S_f1i : AO :=
 Aj Tryz.f173 1 1 X_f1i (fun x => [(V.ptr (.par 0) []), e_TRc x]) fun l => (d_TRc (at_ l 1))
def tt_f1i (x : X_f1i) : TT Tryz.prog RR_f1i :=
 (.call con_f4 (Ar.mk x.AD.n x.AD.get) fun (y1 : R_f4) =>
 (.need ((true && true) && (Nat.beq x.AD.n x.AD.n)) <|
 (.ret (y1, x))))
theorem sd_f1i (x : X_f1i) : (tt_f1i x).AJ :=
 (TT.sC fun _ => (TT.sN TT.sR))
theorem roT_f1i (x : X_f1i) : TT.Ro p_f1i (w_f1i x) (tt_f1i x) :=
 (TT.rC fun _ => (TT.rN (TT.rR rfl)))
def D_f1i : AU X_f1i R_f1i := .ro (.of tt_f1i) (fun y => (y.1)) (fun y x => (y, x)) fun x y h => congrArg (fun o => (y.1, o)) (roT_f1i x y h)
def con_f1i : BE Tryz.prog :=
 Di 173 J_f1i S_f1i (.of tt_f1i) D_f1i (fun y x => (y, x)) (fun y => (V.int .u64) y) 1 1 [.any] (lk mxk lbn sd_f1i) (fun x => ⟨(nu_e_TRc : ∀ y, (e_TRc y).Cl) (x), trivial⟩)
abbrev X_f1m : Type := TRr
abbrev R_f1m : Type := Bool
abbrev RR_f1m : Type := Bool × TRr
abbrev p_f1m (y : RR_f1m) : TRr := y.2
abbrev w_f1m (x : X_f1m) : TRr := x
def J_f1m : BM Tryz.prog :=
 BS Tryz.prog Tryz.f135 22 [] [] [] [] [.any] [sh_TRr] [con_f1i] RR_f1m [] fun y => [V.bool y.1, e_TRr y.2]
def S_f1m : AO :=
 Aj Tryz.f135 1 1 X_f1m (fun x => [(V.ptr (.par 0) []), e_TRr x]) fun l => (d_TRr (at_ l 1))
def tt_f1m (x : X_f1m) : TT Tryz.prog RR_f1m :=
 (.call con_f1i x.AA fun (y1 : R_f1i) =>
 (.ret ((Bw x.most (IntKind.u64.wrap (x.AA.tail - y1))), x)))
theorem sd_f1m (x : X_f1m) : (tt_f1m x).AJ :=
 (TT.sC fun _ => TT.sR)
theorem roT_f1m (x : X_f1m) : TT.Ro p_f1m (w_f1m x) (tt_f1m x) :=
 (TT.rC fun _ => (TT.rR rfl))
def D_f1m : AU X_f1m R_f1m := .ro (.of tt_f1m) (fun y => (y.1)) (fun y x => (y, x)) fun x y h => congrArg (fun o => (y.1, o)) (roT_f1m x y h)
def con_f1m : BE Tryz.prog :=
 Di 135 J_f1m S_f1m (.of tt_f1m) D_f1m (fun y x => (y, x)) (fun y => V.bool y) 1 1 [.any] (lk mxk lbn sd_f1m) (fun x => ⟨(nu_e_TRr : ∀ y, (e_TRr y).Cl) (x), trivial⟩)
abbrev X_f3v : Type := TAk × Bool × Bool
abbrev R_f3v : Type := Int × Bool
def J_f3v : BM Tryz.prog :=
 BS Tryz.prog Tryz.f136 21 [(3, 3)] [] [] [] [.any, .any] [] [] R_f3v [] fun y => [V.Cb (V.cons ((V.int .i64) y.1) (V.cons (V.bool y.2) (V.unit)))]
def S_f3v : AO :=
 Aj Tryz.f136 3 0 X_f3v (fun x => [e_TAk x.1, V.bool x.2.1, V.bool x.2.2]) fun l => (d_TAk (at_ l 0), dB (at_ l 1), dB (at_ l 2))
def tt_f3v (x : X_f3v) : TT Tryz.prog R_f3v :=
 (.ite x.snd.fst
 (.ret (6, true))
 (.ite (AW x.fst.Mode 0)
 (.ret (5, true))
 (.ite (AW x.fst.Mode 2)
 (.ite x.snd.snd
 (.ret (7, true))
 (.ret (0, false)))
 (.ret (0, false)))))
theorem sd_f3v (x : X_f3v) : (tt_f3v x).AJ :=
 (TT.sI TT.sR (TT.sI TT.sR (TT.sI (TT.sI TT.sR TT.sR) TT.sR)))
def D_f3v : AU X_f3v R_f3v := .of tt_f3v
def con_f3v : BE Tryz.prog :=
 B2 136 J_f3v S_f3v D_f3v 3 0 [.any, .any, .any] (lk mxk lbn sd_f3v)
abbrev X_fq : Type := Int × TRr
abbrev R_fq : Type := Int
abbrev RR_fq : Type := Int × TRr
abbrev p_fq (y : RR_fq) : TRr := y.2
abbrev w_fq (x : X_fq) : TRr := x.2
def J_fq : BM Tryz.prog :=
 BS Tryz.prog Tryz.f101 23 [] [] [] [.back (.loc 19 0)] [.any] [sh_TRr] [con_fy] RR_fq [] fun y => [(V.int .u64) y.1, e_TRr y.2]
def S_fq : AO :=
 Aj Tryz.f101 2 1 X_fq (fun x => [(V.ptr (.par 0) []), (V.int .i64) x.1, e_TRr x.2]) fun l => (dI (at_ l 1), d_TRr (at_ l 2))
structure X_fq_3 where
 FY : Int
 Ah : TRr
def S_fq_3 : AO :=
 Ad Tryz.f101 3 (an [0, 1]) [sh_TRr] [] X_fq_3 (fun x => [(V.ptr (.par 0) []), (V.int .i64) x.FY, e_TRr x.Ah]) fun l => ⟨dI (at_ l 1), d_TRr (at_ l 2)⟩
abbrev w_fq_3 (x : X_fq_3) : TRr := (x.Ah)
def tt_fq_3 (x : X_fq_3) : TT Tryz.prog RR_fq :=
 (.need (A6 x.FY x.Ah.AA.AD.n) <|
 (.need ((Nat.beq x.Ah.AA.AD.n x.Ah.AA.AD.n) && true) <|
 (.need ((true && true) && (Nat.beq x.Ah.AA.AD.n x.Ah.AA.AD.n)) <|
 (.ret ((x.Ah.AA.AD.get ((0 : Nat) + (Int.toNat x.FY))), x.Ah)))))
theorem sd_fq_3 (x : X_fq_3) : (tt_fq_3 x).AJ :=
 (TT.sN (TT.sN (TT.sN TT.sR)))
theorem roT_fq_3 (x : X_fq_3) : TT.Ro p_fq (w_fq_3 x) (tt_fq_3 x) :=
 (TT.rN (TT.rN (TT.rN (TT.rR rfl))))
def D_fq_3 : AU X_fq_3 RR_fq := .of tt_fq_3
theorem ok_fq_3 : AY J_fq S_fq_3 D_fq_3 :=
 lk mxk lbn sd_fq_3
theorem ro_fq_3 : ∀ x y, D_fq_3.rel x y → p_fq y = w_fq_3 x :=
 roT_fq_3 
def tt_fq (x : X_fq) : TT Tryz.prog RR_fq :=
 (.call con_fy (x.fst, x.snd.AA) fun (y1 : R_fy) =>
 (.ite (!y1)
 (.ret (0, x.snd))
 (.AM S_fq_3 D_fq_3 (X_fq_3.mk x.fst x.snd))))
theorem sd_fq (x : X_fq) : (tt_fq x).AJ :=
 (TT.sC fun _ => (TT.sI TT.sR TT.sJ))
theorem roT_fq (x : X_fq) : TT.Ro p_fq (w_fq x) (tt_fq x) :=
 (TT.rC fun _ => (TT.rI (TT.rR rfl) (TT.rJ (ro_fq_3 _))))
def D_fq : AU X_fq R_fq := .ro (.of tt_fq) (fun y => (y.1)) (fun y x => (y, x.2)) fun x y h => congrArg (fun o => (y.1, o)) (roT_fq x y h)
def con_fq : BE Tryz.prog :=
 Di 101 J_fq S_fq (.of tt_fq) D_fq (fun y x => (y, x.2)) (fun y => (V.int .u64) y) 2 1 [.any, .any] (lk mxk (lbc ok_fq_3 rfl lbn) sd_fq) (fun x => ⟨(nu_e_TRr : ∀ y, (e_TRr y).Cl) (x.2), trivial⟩)
abbrev X_f1y : Type := TRr
abbrev R_f1y : Type := Int
abbrev RR_f1y : Type := Int × TRr
abbrev p_f1y (y : RR_f1y) : TRr := y.2
abbrev w_f1y (x : X_f1y) : TRr := x
def J_f1y : BM Tryz.prog :=
 BS Tryz.prog Tryz.f81 10 [] [] [] [] [.any] [sh_TRr] [] RR_f1y [] fun y => [(V.int .u64) y.1, e_TRr y.2]
def S_f1y : AO :=
 Aj Tryz.f81 1 1 X_f1y (fun x => [(V.ptr (.par 0) []), e_TRr x]) fun l => (d_TRr (at_ l 1))
def tt_f1y (x : X_f1y) : TT Tryz.prog RR_f1y :=
 (.ret (x.AA.tail, x))
theorem sd_f1y (x : X_f1y) : (tt_f1y x).AJ :=
 TT.sR
theorem roT_f1y (x : X_f1y) : TT.Ro p_f1y (w_f1y x) (tt_f1y x) :=
 (TT.rR rfl)
def D_f1y : AU X_f1y R_f1y := .ro (.of tt_f1y) (fun y => (y.1)) (fun y x => (y, x)) fun x y h => congrArg (fun o => (y.1, o)) (roT_f1y x y h)
def con_f1y : BE Tryz.prog :=
 Di 81 J_f1y S_f1y (.of tt_f1y) D_f1y (fun y x => (y, x)) (fun y => (V.int .u64) y) 1 1 [.any] (lk mxk lbn sd_f1y) (fun x => ⟨(nu_e_TRr : ∀ y, (e_TRr y).Cl) (x), trivial⟩)
def d_TEv (v : V) : TEv :=
 ⟨dI (fd v 0), dI (fd v 1), dI (fd v 2), dI (fd v 3), dI (fd v 4)⟩
def e_TEv (x : TEv) : V :=
 V.cons ((V.int .i64) x.Thread) (V.cons ((V.int .i64) x.Kind) (V.cons ((V.int .i64) x.Ring) (V.cons ((V.int .u64) x.AG) (V.cons ((V.int .u64) x.Value) (V.unit)))))
theorem nu_e_TEv (x : TEv) : (e_TEv x).Cl := ⟨trivial, trivial, trivial, trivial, trivial, trivial⟩
abbrev X_ft : Type := TAk × TEv × Bool × TFa
abbrev R_ft : Type := TEv × Bool
abbrev RR_ft : Type := TEv × Bool × TFa
abbrev p_ft (y : RR_ft) : TFa := y.2.2
abbrev w_ft (x : X_ft) : TFa := x.2.2.2
def J_ft : BM Tryz.prog :=
 BS Tryz.prog Tryz.f79 61 [(5, 3), (35, 1), (37, 1), (56, 1)] [(2, [.open_ 10])] [] [] [.any, .any] [sh_TFa] [con_ff, con_f15, con_f18, con_f1m, con_fq, con_f1y, con_f3v] RR_ft [] fun y => [V.Cb (V.cons (e_TEv y.1) (V.cons (V.bool y.2.1) (V.unit))), e_TFa y.2.2]
def S_ft : AO :=
 Aj Tryz.f79 4 1 X_ft (fun x => [(V.ptr (.par 0) []), e_TAk x.1, e_TEv x.2.1, V.bool x.2.2.1, e_TFa x.2.2.2]) fun l => (d_TAk (at_ l 1), d_TEv (at_ l 2), dB (at_ l 3), d_TFa (at_ l 4))
structure X_ft_5 where
 TY : Bool
 Vh : TAk
 Qh : Bool
 Ah : TFa
 FG : TEv
 G0 : TEv
 UW : TRr
def S_ft_5 : AO :=
 Ad Tryz.f79 5 (an [3, 5, 6, 8, 10, 11]) [sh_TFa] [(.loc 6 0, .any), (.loc 8 0, .any), (.loc 10 1, sh_TRr)] X_ft_5 (fun x => [V.bool x.TY, (Ch e_TAk) x.Vh, (V.ptr (.loc 6 0) []), (V.ptr (.loc 8 0) []), (V.ptr (.loc 10 1) []), V.bool x.Qh, e_TFa x.Ah, e_TEv x.FG, e_TEv x.G0, e_TRr x.UW]) fun l => ⟨dB (at_ l 0), (Ci d_TAk) (at_ l 1), dB (at_ l 5), d_TFa (at_ l 6), d_TEv (at_ l 7), d_TEv (at_ l 8), d_TRr (at_ l 9)⟩
abbrev w_ft_5 (x : X_ft_5) : TFa := (x.Ah)
def tt_ft_5 (x : X_ft_5) : TT Tryz.prog RR_ft :=
 (.ite x.Qh
 (.call con_f15 x.UW fun (y1 : R_f15) =>
 (.call con_f3v (x.Vh, (y1, x.TY)) fun (y2 : R_f3v) =>
 (.ret ((TEv.mk x.FG.Thread y2.fst x.Vh.Ring x.FG.AG x.FG.Value), (y2.snd, x.Ah)))))
 (.call con_fq (x.Vh.Reader, x.UW) fun (y1 : R_fq) =>
 (.ite (AW x.Vh.Kind 1)
 (.call con_f1y x.UW fun (y2 : R_f1y) =>
 (.ret ((TEv.mk x.FG.Thread 1 x.Vh.Ring y2 x.FG.Value), (true, x.Ah))))
 (.ret ((TEv.mk x.FG.Thread 3 x.Vh.Ring y1 x.FG.Value), (true, x.Ah))))))
theorem sd_ft_5 (x : X_ft_5) : (tt_ft_5 x).AJ :=
 (TT.sI (TT.sC fun _ => (TT.sC fun _ => TT.sR)) (TT.sC fun _ => (TT.sI (TT.sC fun _ => TT.sR) TT.sR)))
theorem roT_ft_5 (x : X_ft_5) : TT.Ro p_ft (w_ft_5 x) (tt_ft_5 x) :=
 (TT.rI (TT.rC fun _ => (TT.rC fun _ => (TT.rR rfl))) (TT.rC fun _ => (TT.rI (TT.rC fun _ => (TT.rR rfl)) (TT.rR rfl))))
def D_ft_5 : AU X_ft_5 RR_ft := .of tt_ft_5
theorem ok_ft_5 : AY J_ft S_ft_5 D_ft_5 :=
 lk mxk lbn sd_ft_5
theorem ro_ft_5 : ∀ x y, D_ft_5.rel x y → p_ft y = w_ft_5 x :=
 roT_ft_5 
def tt_ft (x : X_ft) : TT Tryz.prog RR_ft :=
 (.call con_ff (x.fst.Ring, x.snd.snd.snd) fun (y1 : R_ff) =>
 (.need (!y1.nil) <|
 (.call con_f18 (x.fst.Reader, y1.x) fun (y2 : R_f18) =>
 (.ite (AW x.fst.Kind 1)
 (.call con_f15 y1.x fun (y3 : R_f15) =>
 (.ite y3
 (.AM S_ft_5 D_ft_5 (X_ft_5.mk x.snd.snd.fst x.fst true x.snd.snd.snd x.snd.fst (TEv.mk 0 0 0 0 0) y1.x))
 (.call con_f1m y1.x fun (y4 : R_f1m) =>
 (.AM S_ft_5 D_ft_5 (X_ft_5.mk x.snd.snd.fst x.fst y4 x.snd.snd.snd x.snd.fst (TEv.mk 0 0 0 0 0) y1.x)))))
 (.AM S_ft_5 D_ft_5 (X_ft_5.mk x.snd.snd.fst x.fst y2 x.snd.snd.snd x.snd.fst (TEv.mk 0 0 0 0 0) y1.x))))))
theorem sd_ft (x : X_ft) : (tt_ft x).AJ :=
 (TT.sC fun _ => (TT.sN (TT.sC fun _ => (TT.sI (TT.sC fun _ => (TT.sI TT.sJ (TT.sC fun _ => TT.sJ))) TT.sJ))))
theorem roT_ft (x : X_ft) : TT.Ro p_ft (w_ft x) (tt_ft x) :=
 (TT.rC fun _ => (TT.rN (TT.rC fun _ => (TT.rI (TT.rC fun _ => (TT.rI (TT.rJ (ro_ft_5 _)) (TT.rC fun _ => (TT.rJ (ro_ft_5 _))))) (TT.rJ (ro_ft_5 _))))))
def D_ft : AU X_ft R_ft := .ro (.of tt_ft) (fun y => (y.1, y.2.1)) (fun y x => (y.1, y.2, x.2.2.2)) fun x y h => congrArg (fun o => (y.1, y.2.1, o)) (roT_ft x y h)
def con_ft : BE Tryz.prog :=
 Di 79 J_ft S_ft (.of tt_ft) D_ft (fun y x => (y.1, y.2, x.2.2.2)) (fun y => V.Cb (V.cons (e_TEv y.1) (V.cons (V.bool y.2) (V.unit)))) 4 1 [.any, .any, .any, .any] (lk mxk (lbc ok_ft_5 rfl lbn) sd_ft) (fun x => ⟨(nu_e_TFa : ∀ y, (e_TFa y).Cl) (x.2.2.2), trivial⟩)
abbrev X_f1k : Type := TFa
abbrev R_f1k : Type := Int
abbrev RR_f1k : Type := Int × TFa
abbrev p_f1k (y : RR_f1k) : TFa := y.2
abbrev w_f1k (x : X_f1k) : TFa := x
def J_f1k : BM Tryz.prog :=
 BS Tryz.prog Tryz.f56 9 [] [] [] [] [.any] [sh_TFa] [] RR_f1k [] fun y => [(V.int .u64) y.1, e_TFa y.2]
def S_f1k : AO :=
 Aj Tryz.f56 1 1 X_f1k (fun x => [(V.ptr (.par 0) []), e_TFa x]) fun l => (d_TFa (at_ l 1))
def tt_f1k (x : X_f1k) : TT Tryz.prog RR_f1k :=
 (.ret (x.now, x))
theorem sd_f1k (x : X_f1k) : (tt_f1k x).AJ :=
 TT.sR
theorem roT_f1k (x : X_f1k) : TT.Ro p_f1k (w_f1k x) (tt_f1k x) :=
 (TT.rR rfl)
def D_f1k : AU X_f1k R_f1k := .ro (.of tt_f1k) (fun y => (y.1)) (fun y x => (y, x)) fun x y h => congrArg (fun o => (y.1, o)) (roT_f1k x y h)
def con_f1k : BE Tryz.prog :=
 Di 56 J_f1k S_f1k (.of tt_f1k) D_f1k (fun y x => (y, x)) (fun y => (V.int .u64) y) 1 1 [.any] (lk mxk lbn sd_f1k) (fun x => ⟨(nu_e_TFa : ∀ y, (e_TFa y).Cl) (x), trivial⟩)
abbrev Dsl_TRs : Type := (Sl TRs)
def esl_TRs : Dsl_TRs → V := (MX none 4 e_TRs)
def dsl_TRs : V → Dsl_TRs := (L9 d_TRs)
def hsl_TRs : Sh := (.sl none 4 (e_TRs (d_TRs .undef)))
structure TSt where
 AB : (Sl TTh)
 AF : (Sl TRs)
 Ec : Int
 Reads : Int
 BO : Bool
def d_TSt (v : V) : TSt :=
 ⟨dsl_TTh (fd v 0), dsl_TRs (fd v 1), dI (fd v 2), dI (fd v 3), dB (fd v 4)⟩
def e_TSt (x : TSt) : V :=
 V.cons (esl_TTh x.AB) (V.cons (esl_TRs x.AF) (V.cons ((V.int .u64) x.Ec) (V.cons ((V.int .u64) x.Reads) (V.cons (V.bool x.BO) (V.unit)))))
theorem nu_e_TSt (x : TSt) : (e_TSt x).Cl := ⟨trivial, trivial, trivial, trivial, trivial, trivial⟩
def sh_TSt : Sh := (.cons hsl_TTh (.cons hsl_TRs .any))
abbrev X_fh : Type := (Ar TTh)
abbrev R_fh : Type := (Sl TTh)
abbrev RR_fh : Type := (Sl TTh) × (Ar TTh)
abbrev p_fh (y : RR_fh) : (Ar TTh) := y.2
abbrev w_fh (x : X_fh) : (Ar TTh) := x
def J_fh : BM Tryz.prog :=
 BS Tryz.prog Tryz.f46 8 [(5, 1), (6, 1)] [] [] [.E0 2] [hosl_TTh] [.any] [] RR_fh [] fun y => [eosl_TTh y.1, (Mv 14 e_TTh) y.2]
def S_fh : AO :=
 Aj Tryz.f46 1 1 X_fh (fun x => [(V.own (.par 0) [] 14 x.n 0 x.n), (Mv 14 e_TTh) x]) fun l => ((R6 d_TTh) (at_ l 1))
def tt_fh (x : X_fh) : TT Tryz.prog RR_fh :=
 (.need (Nat.blt 0 x.n) <|
 (.need ((true && (Nat.beq x.n x.n)) && (room ((0 : Nat) + x.n) 128)) <|
 (.side (∀ i1 : Nat, ((i1 < x.n) → ((true && (true && (true && (true && (true && ((true && (true && (true && (true && (true && (true && (true && (true && true)))))))) && (true && true))))))) = true))) <|
 (.ret ((Sl.mk (cond (Nat.beq x.n 0) false false) ((0 : Nat) + x.n) (fun i1 => (TTh.mk (cond (Nat.blt i1 0) (0 : Int) (x.get ((0 : Nat) + (i1 - 0))).At) (cond (Nat.blt i1 0) (0 : Int) (x.get ((0 : Nat) + (i1 - 0))).Phase) (cond (Nat.blt i1 0) (0 : Int) (x.get ((0 : Nat) + (i1 - 0))).Ring) (cond (Nat.blt i1 0) (0 : Int) (x.get ((0 : Nat) + (i1 - 0))).Status) (cond (Nat.blt i1 0) (0 : Int) (x.get ((0 : Nat) + (i1 - 0))).AG) (fun i2 => (cond (Nat.blt i1 0) (0 : Int) ((x.get ((0 : Nat) + (i1 - 0))).Ae i2))) (Sl.mk (cond (Nat.blt i1 0) true (x.get ((0 : Nat) + (i1 - 0))).Seen.nil) (cond (Nat.blt i1 0) (0 : Nat) (x.get ((0 : Nat) + (i1 - 0))).Seen.n) (fun i2 => (cond (Nat.blt i1 0) (0 : Int) ((x.get ((0 : Nat) + (i1 - 0))).Seen.get i2))))))), x)))))
theorem sd_fh (x : X_fh) : (tt_fh x).AJ :=
 (TT.sN (TT.sN (TT.sS (fun _ _ => rfl) TT.sR)))
theorem roT_fh (x : X_fh) : TT.Ro p_fh (w_fh x) (tt_fh x) :=
 (TT.rN (TT.rN (TT.rS (TT.rR rfl))))
def D_fh : AU X_fh R_fh := .ro (.of tt_fh) (fun y => (y.1)) (fun y x => (y, x)) fun x y h => congrArg (fun o => (y.1, o)) (roT_fh x y h)
def con_fh : BE Tryz.prog :=
 Di 46 J_fh S_fh (.of tt_fh) D_fh (fun y x => (y, x)) (fun y => eosl_TTh y) 1 1 [.any] (lk mxk lbn sd_fh) (fun x => ⟨(fun _ _ => (nu_e_TTh) _ : ∀ y, ((Mv 14 e_TTh) y).Cl) (x), trivial⟩)
abbrev X_f2e : Type := (Sl Int)
abbrev R_f2e : Type := (Sl Int)
def J_f2e : BM Tryz.prog :=
 BS Tryz.prog Tryz.f47 8 [(6, 1)] [] [] [.E0 2] [BP] [] [] R_f2e [] fun y => [BG y]
def S_f2e : AO :=
 Aj Tryz.f47 1 0 X_f2e (fun x => [BG x]) fun l => (Bc (at_ l 0))
def tt_f2e (x : X_f2e) : TT Tryz.prog R_f2e :=
 (.ite x.nil
 (.ret (Sl.mk true 0 (fun _i1 => (0 : Int))))
 (.need (true && (room ((0 : Nat) + x.n) 8)) <|
 (.ret (Sl.mk (cond (Nat.beq x.n 0) false false) ((0 : Nat) + x.n) (fun i1 => (cond (Nat.blt i1 0) (0 : Int) (x.get (i1 - 0))))))))
theorem sd_f2e (x : X_f2e) : (tt_f2e x).AJ :=
 (TT.sI TT.sR (TT.sN TT.sR))
def D_f2e : AU X_f2e R_f2e := .of tt_f2e
def con_f2e : BE Tryz.prog :=
 B2 47 J_f2e S_f2e D_f2e 1 0 [BP] (lk mxk lbn sd_f2e)
abbrev DslA_TRs : Type := (Sl TRs)
def eslA_TRs : DslA_TRs → V := (MX (some 93) 4 e_TRs)
def dslA_TRs : V → DslA_TRs := (L9 d_TRs)
def hslA_TRs : Sh := (.sl (some 93) 4 (e_TRs (d_TRs .undef)))
def e_TSt_o0_1 (x : TSt) : V :=
 V.cons (eosl_TTh x.AB) (V.cons (eslA_TRs x.AF) (V.cons ((V.int .u64) x.Ec) (V.cons ((V.int .u64) x.Reads) (V.cons (V.bool x.BO) (V.unit)))))
theorem nu_e_TSt_o0_1 (x : TSt) : (e_TSt_o0_1 x).Cl := ⟨(fun _ _ => (nu_e_TTh) _ : ∀ y, (eosl_TTh y).Cl) x.AB, trivial, trivial, trivial, trivial, trivial⟩
def sh_TSt_o0_1 : Sh := (.cons hosl_TTh (.cons hslA_TRs .any))
def e_TSt_1 (x : TSt) : V :=
 V.cons (esl_TTh x.AB) (V.cons (eslA_TRs x.AF) (V.cons ((V.int .u64) x.Ec) (V.cons ((V.int .u64) x.Reads) (V.cons (V.bool x.BO) (V.unit)))))
theorem nu_e_TSt_1 (x : TSt) : (e_TSt_1 x).Cl := ⟨trivial, trivial, trivial, trivial, trivial, trivial⟩
def sh_TSt_1 : Sh := (.cons hsl_TTh (.cons hslA_TRs .any))
abbrev X_f1 : Type := TFa
abbrev R_f1 : Type := TSt
abbrev RR_f1 : Type := TSt × TFa
abbrev p_f1 (y : RR_f1) : TFa := y.2
abbrev w_f1 (x : X_f1) : TFa := x
def J_f1 : BM Tryz.prog :=
 BS Tryz.prog Tryz.f17 64 [(56, 1)] [(4, [.back (.loc 12 0)]), (5, [.back (.loc 37 0), .back (.loc 34 0), .back (.loc 28 0), .back (.loc 12 0)]), (6, [.back (.loc 37 0), .back (.loc 34 0), .back (.loc 28 0), .back (.loc 12 0)]), (7, [.back (.loc 37 0), .back (.loc 34 0), .back (.loc 28 0), .back (.loc 12 0)]), (8, [.back (.loc 37 0), .back (.loc 34 0), .back (.loc 28 0), .back (.loc 12 0)]), (9, [.back (.loc 37 0), .back (.loc 34 0), .back (.loc 28 0), .back (.loc 12 0), .U0 (.loc 2 0) [.CI 0 0]]), (10, [.back (.loc 54 0), .back (.loc 37 0), .back (.loc 34 0), .back (.loc 28 0), .back (.loc 12 0)]), (11, [.back (.loc 54 0), .back (.loc 37 0), .back (.loc 34 0), .back (.loc 28 0), .back (.loc 12 0)]), (12, [.back (.loc 37 0), .back (.loc 34 0), .back (.loc 28 0), .back (.loc 12 0)]), (13, [.back (.loc 54 0), .back (.loc 37 0), .back (.loc 34 0), .back (.loc 28 0), .back (.loc 12 0)]), (14, [.back (.loc 54 0), .back (.loc 49 0), .back (.loc 37 0), .back (.loc 34 0), .back (.loc 28 0), .back (.loc 12 0)])] [(3, [.Ia (.par 0) [.CI 1 2] 12]), (7, [.Ia (.loc 2 0) [.CI 0 0] 34, .Ia (.loc 2 0) [.CI 0 0] 37])] [.back (.loc 54 0), .back (.loc 49 0), .back (.loc 37 0), .back (.loc 34 0), .back (.loc 28 0), .back (.loc 12 0)] [sh_TSt] [sh_TFa] [con_f1l, con_fh, con_f2e] RR_f1 [(0, [⟨.loc 12 0, .par 0, [.CI 1 2], none, none⟩, ⟨.loc 34 0, .loc 2 0, [.CI 0 0], none, none⟩, ⟨.loc 37 0, .loc 2 0, [.CI 0 0], none, none⟩]), (5, [⟨.loc 12 0, .par 0, [.CI 1 2], none, none⟩, ⟨.loc 34 0, .loc 2 0, [.CI 0 0], none, none⟩, ⟨.loc 37 0, .loc 2 0, [.CI 0 0], none, none⟩]), (9, [⟨.loc 12 0, .par 0, [.CI 1 2], none, none⟩, ⟨.loc 34 0, .loc 2 0, [.CI 0 0], none, none⟩, ⟨.loc 37 0, .loc 2 0, [.CI 0 0], none, none⟩]), (10, [⟨.loc 49 0, .par 0, [.CI 2 3], none, none⟩, ⟨.loc 12 0, .par 0, [.CI 1 2], none, none⟩, ⟨.loc 34 0, .loc 2 0, [.CI 0 0], none, none⟩, ⟨.loc 37 0, .loc 2 0, [.CI 0 0], none, none⟩])] fun y => [e_TSt y.1, e_TFa y.2]
def S_f1 : AO :=
 Aj Tryz.f17 1 1 X_f1 (fun x => [(V.ptr (.par 0) []), e_TFa x]) fun l => (d_TFa (at_ l 1))
structure X_f1_5 where
 NU : Int
 E4 : Int
 Ah : TFa
 Bv : TSt
def S_f1_5 : AO :=
 Ad Tryz.f17 5 (an [0, 2, 29, 30]) [sh_TFa] [(.loc 2 0, sh_TSt_o0_1)] X_f1_5 (fun x => [(V.ptr (.par 0) []), (V.ptr (.loc 2 0) []), (V.int .i64) x.NU, (V.int .i64) x.E4, e_TFa x.Ah, e_TSt_o0_1 x.Bv]) fun l => ⟨dI (at_ l 2), dI (at_ l 3), d_TFa (at_ l 4), d_TSt (at_ l 5)⟩
structure X_f1_9 where
 Ah : TFa
 Bv : TSt
def S_f1_9 : AO :=
 Ad Tryz.f17 9 (an [0, 2]) [sh_TFa] [(.loc 2 0, sh_TSt_1)] X_f1_9 (fun x => [(V.ptr (.par 0) []), (V.ptr (.loc 2 0) []), e_TFa x.Ah, e_TSt_1 x.Bv]) fun l => ⟨d_TFa (at_ l 2), d_TSt (at_ l 3)⟩
structure X_f1_10 where
 UD : Int
 DR : Int
 Ah : TFa
 Bv : TSt
def S_f1_10 : AO :=
 Ad Tryz.f17 10 (an [2, 49, 50, 51]) [sh_TFa] [(.loc 2 0, sh_TSt_1), (.loc 49 0, .any)] X_f1_10 (fun x => [(V.ptr (.loc 2 0) []), (V.own (.loc 49 0) [] 1 x.Ah.rings.n 0 x.Ah.rings.n), (V.int .i64) x.UD, (V.int .i64) x.DR, V.cons (e_TPg x.Ah.p) (V.cons (eosl_TTh x.Ah.threads) (V.cons (V.CB (.loc 49 0) 88 1 x.Ah.rings.nil x.Ah.rings.n) (V.cons ((V.int .u64) x.Ah.now) (V.cons ((V.int .u64) x.Ah.reads) (V.cons (V.bool x.Ah.ended) (V.unit)))))), e_TSt_1 x.Bv, (V.arr 1 x.Ah.rings.n fun i => ebox_TRr (x.Ah.rings.get i))]) fun l => ⟨dI (at_ l 2), dI (at_ l 3), { d_TFa (at_ l 4) with rings := ⟨(SP (fd (at_ l 4) 2)).nil, (SP (fd (at_ l 4) 2)).n, (R6 dbox_TRr (at_ l 6)).get⟩ }, d_TSt (at_ l 5)⟩
abbrev w_f1_5 (x : X_f1_5) : TFa := (x.Ah)
abbrev w_f1_9 (x : X_f1_9) : TFa := (x.Ah)
abbrev w_f1_10 (x : X_f1_10) : TFa := (x.Ah)
def tt_f1_10 (D_f1_10 : AU X_f1_10 RR_f1) (x : X_f1_10) : TT Tryz.prog RR_f1 :=
 (.ite (Bq x.DR x.UD)
 (.need (A6 x.DR x.Ah.rings.n) <|
 (.need (((Nat.beq x.Ah.rings.n x.Ah.rings.n) && true) && (!(x.Ah.rings.get ((0 : Nat) + (Int.toNat x.DR))).nil)) <|
 (.call con_f1l (x.Ah.rings.get ((0 : Nat) + (Int.toNat x.DR))).x fun (y2 : R_f1l) =>
 (.need (true && (room (x.Bv.AF.n + 1) 64)) <|
 (.need ((true && true) && (((Nat.beq x.Ah.rings.n x.Ah.rings.n) && (Nat.blt ((0 : Nat) + (Int.toNat x.DR)) x.Ah.rings.n)) && (!(x.Ah.rings.get ((0 : Nat) + (Int.toNat x.DR))).nil))) <|
 (.side (((fun v : Nat → V => v = v) (fun i3 => (cond (Nat.beq i3 ((0 : Nat) + (Int.toNat x.DR))) (V.ptr (Id.loc 54 0) List.nil) (V.Am (x.Ah.rings.get i3).nil (V.cons (V.cons (V.int IntKind.u64 (x.Ah.rings.get i3).x.AA.tail) (V.cons (V.BA 36 1 (x.Ah.rings.get i3).x.AA.AD.nil (x.Ah.rings.get i3).x.AA.AD.n (fun i4 => (V.int IntKind.u64 ((x.Ah.rings.get i3).x.AA.AD.get i4)))) V.unit)) (V.cons (V.Am (x.Ah.rings.get i3).x.s.nil (V.cons (V.BA 175 3 (x.Ah.rings.get i3).x.s.x.l.nil (x.Ah.rings.get i3).x.s.x.l.n (fun i4 => (V.cons (V.int IntKind.u64 ((x.Ah.rings.get i3).x.s.x.l.get i4).AP) (V.cons (V.int IntKind.u64 ((x.Ah.rings.get i3).x.s.x.l.get i4).Value) (V.cons (V.int IntKind.i64 ((x.Ah.rings.get i3).x.s.x.l.get i4).Left) V.unit))))) (V.cons (V.int IntKind.i64 (x.Ah.rings.get i3).x.s.x.AX) V.unit))) (V.cons (V.int IntKind.u64 (x.Ah.rings.get i3).x.most) (V.cons (V.bool (x.Ah.rings.get i3).x.closed) V.unit)))))))) ∧ (((fun v : V => v = v) (V.cons (V.cons (V.int IntKind.u64 (x.Ah.rings.get ((0 : Nat) + (Int.toNat x.DR))).x.AA.tail) (V.cons (V.BA 36 1 (x.Ah.rings.get ((0 : Nat) + (Int.toNat x.DR))).x.AA.AD.nil (x.Ah.rings.get ((0 : Nat) + (Int.toNat x.DR))).x.AA.AD.n (fun i3 => (V.int IntKind.u64 ((x.Ah.rings.get ((0 : Nat) + (Int.toNat x.DR))).x.AA.AD.get i3)))) V.unit)) (V.cons (V.Am (x.Ah.rings.get ((0 : Nat) + (Int.toNat x.DR))).x.s.nil (V.cons (V.BA 175 3 (x.Ah.rings.get ((0 : Nat) + (Int.toNat x.DR))).x.s.x.l.nil (x.Ah.rings.get ((0 : Nat) + (Int.toNat x.DR))).x.s.x.l.n (fun i3 => (V.cons (V.int IntKind.u64 ((x.Ah.rings.get ((0 : Nat) + (Int.toNat x.DR))).x.s.x.l.get i3).AP) (V.cons (V.int IntKind.u64 ((x.Ah.rings.get ((0 : Nat) + (Int.toNat x.DR))).x.s.x.l.get i3).Value) (V.cons (V.int IntKind.i64 ((x.Ah.rings.get ((0 : Nat) + (Int.toNat x.DR))).x.s.x.l.get i3).Left) V.unit))))) (V.cons (V.int IntKind.i64 (x.Ah.rings.get ((0 : Nat) + (Int.toNat x.DR))).x.s.x.AX) V.unit))) (V.cons (V.int IntKind.u64 (x.Ah.rings.get ((0 : Nat) + (Int.toNat x.DR))).x.most) (V.cons (V.bool (x.Ah.rings.get ((0 : Nat) + (Int.toNat x.DR))).x.closed) V.unit))))) ∧ ((fun v : V => v = v) (V.Am (x.Ah.rings.get ((0 : Nat) + (Int.toNat x.DR))).nil (V.cons (V.cons (V.int IntKind.u64 (x.Ah.rings.get ((0 : Nat) + (Int.toNat x.DR))).x.AA.tail) (V.cons (V.BA 36 1 (x.Ah.rings.get ((0 : Nat) + (Int.toNat x.DR))).x.AA.AD.nil (x.Ah.rings.get ((0 : Nat) + (Int.toNat x.DR))).x.AA.AD.n (fun i3 => (V.int IntKind.u64 ((x.Ah.rings.get ((0 : Nat) + (Int.toNat x.DR))).x.AA.AD.get i3)))) V.unit)) (V.cons (V.Am (x.Ah.rings.get ((0 : Nat) + (Int.toNat x.DR))).x.s.nil (V.cons (V.BA 175 3 (x.Ah.rings.get ((0 : Nat) + (Int.toNat x.DR))).x.s.x.l.nil (x.Ah.rings.get ((0 : Nat) + (Int.toNat x.DR))).x.s.x.l.n (fun i3 => (V.cons (V.int IntKind.u64 ((x.Ah.rings.get ((0 : Nat) + (Int.toNat x.DR))).x.s.x.l.get i3).AP) (V.cons (V.int IntKind.u64 ((x.Ah.rings.get ((0 : Nat) + (Int.toNat x.DR))).x.s.x.l.get i3).Value) (V.cons (V.int IntKind.i64 ((x.Ah.rings.get ((0 : Nat) + (Int.toNat x.DR))).x.s.x.l.get i3).Left) V.unit))))) (V.cons (V.int IntKind.i64 (x.Ah.rings.get ((0 : Nat) + (Int.toNat x.DR))).x.s.x.AX) V.unit))) (V.cons (V.int IntKind.u64 (x.Ah.rings.get ((0 : Nat) + (Int.toNat x.DR))).x.most) (V.cons (V.bool (x.Ah.rings.get ((0 : Nat) + (Int.toNat x.DR))).x.closed) V.unit)))))))) <|
 (.AM S_f1_10 D_f1_10 (X_f1_10.mk x.UD (IntKind.i64.wrap (x.DR + 1)) x.Ah (TSt.mk x.Bv.AB (Sl.mk (cond (Nat.beq 1 0) x.Bv.AF.nil false) (x.Bv.AF.n + 1) (fun i3 => (TRs.mk (cond (Nat.blt i3 x.Bv.AF.n) (x.Bv.AF.get i3).A0 y2.A0) (Sl.mk (cond (Nat.blt i3 x.Bv.AF.n) (x.Bv.AF.get i3).AV.nil y2.AV.nil) (cond (Nat.blt i3 x.Bv.AF.n) (x.Bv.AF.get i3).AV.n y2.AV.n) (fun i4 => (cond (Nat.blt i3 x.Bv.AF.n) ((x.Bv.AF.get i3).AV.get i4) (y2.AV.get i4)))) (cond (Nat.blt i3 x.Bv.AF.n) (x.Bv.AF.get i3).As y2.As) (Sl.mk (cond (Nat.blt i3 x.Bv.AF.n) (x.Bv.AF.get i3).Al.nil y2.Al.nil) (cond (Nat.blt i3 x.Bv.AF.n) (x.Bv.AF.get i3).Al.n y2.Al.n) (fun i4 => (TSo.mk (cond (Nat.blt i3 x.Bv.AF.n) ((x.Bv.AF.get i3).Al.get i4).AP (y2.Al.get i4).AP) (cond (Nat.blt i3 x.Bv.AF.n) ((x.Bv.AF.get i3).Al.get i4).Value (y2.Al.get i4).Value) (cond (Nat.blt i3 x.Bv.AF.n) ((x.Bv.AF.get i3).Al.get i4).Left (y2.Al.get i4).Left))))))) x.Bv.Ec x.Bv.Reads x.Bv.BO)))))))))
 (.need ((true && true) && (Nat.beq x.Ah.rings.n x.Ah.rings.n)) <|
 (.ret (x.Bv, x.Ah))))
theorem sd_f1_10 (D_f1_10 : AU X_f1_10 RR_f1) (x : X_f1_10) : (tt_f1_10 D_f1_10 x).AJ :=
 (TT.sI (TT.sN (TT.sN (TT.sC fun _ => (TT.sN (TT.sN (TT.sS ⟨rfl, ⟨rfl, rfl⟩⟩ TT.sJ)))))) (TT.sN TT.sR))
theorem roT_f1_10 (D_f1_10 : AU X_f1_10 RR_f1) (r10 : ∀ x y, D_f1_10.rel x y → p_f1 y = w_f1_10 x) (x : X_f1_10) : TT.Ro p_f1 (w_f1_10 x) (tt_f1_10 D_f1_10 x) :=
 (TT.rI (TT.rN (TT.rN (TT.rC fun _ => (TT.rN (TT.rN (TT.rS (TT.rJ (r10 _)))))))) (TT.rN (TT.rR rfl)))
def D_f1_10 : AU X_f1_10 RR_f1 := AU.loop tt_f1_10
theorem ok_f1_10 : AY J_f1 S_f1_10 D_f1_10 :=
 A8 fun D_f1_10 h_10 => lk mxk (lbc h_10 rfl lbn) (sd_f1_10 D_f1_10)
theorem ro_f1_10 : ∀ x y, D_f1_10.rel x y → p_f1 y = w_f1_10 x :=
 Kh fun D_f1_10 r10 => roT_f1_10 D_f1_10 r10
def tt_f1_9 (x : X_f1_9) : TT Tryz.prog RR_f1 :=
 (.AM S_f1_10 D_f1_10 (X_f1_10.mk ((x.Ah.rings.n : Nat) : Int) 0 x.Ah x.Bv))
theorem sd_f1_9 (x : X_f1_9) : (tt_f1_9 x).AJ :=
 TT.sJ
theorem roT_f1_9 (x : X_f1_9) : TT.Ro p_f1 (w_f1_9 x) (tt_f1_9 x) :=
 (TT.rJ (ro_f1_10 _))
def D_f1_9 : AU X_f1_9 RR_f1 := .of tt_f1_9
theorem ok_f1_9 : AY J_f1 S_f1_9 D_f1_9 :=
 lk mxk (lbc ok_f1_10 rfl lbn) sd_f1_9
theorem ro_f1_9 : ∀ x y, D_f1_9.rel x y → p_f1 y = w_f1_9 x :=
 roT_f1_9 
def tt_f1_5 (D_f1_5 : AU X_f1_5 RR_f1) (x : X_f1_5) : TT Tryz.prog RR_f1 :=
 (.ite (Bq x.E4 x.NU)
 (.need (A6 x.E4 x.Bv.AB.n) <|
 (.need ((Nat.beq x.Bv.AB.n x.Bv.AB.n) && true) <|
 (.call con_f2e (x.Bv.AB.get ((0 : Nat) + (Int.toNat x.E4))).Seen fun (y2 : R_f2e) =>
 (.need (A6 x.E4 x.Bv.AB.n) <|
 (.need ((Nat.beq x.Bv.AB.n x.Bv.AB.n) && true) <|
 (.need ((true && true) && (Nat.beq x.Bv.AB.n x.Bv.AB.n)) <|
 (.AM S_f1_5 D_f1_5 (X_f1_5.mk x.NU (IntKind.i64.wrap (x.E4 + 1)) x.Ah (TSt.mk (Sl.mk x.Bv.AB.nil x.Bv.AB.n (fun i3 => (TTh.mk (cond (Nat.beq i3 ((0 : Nat) + (Int.toNat x.E4))) (x.Bv.AB.get ((0 : Nat) + (Int.toNat x.E4))).At (x.Bv.AB.get i3).At) (cond (Nat.beq i3 ((0 : Nat) + (Int.toNat x.E4))) (x.Bv.AB.get ((0 : Nat) + (Int.toNat x.E4))).Phase (x.Bv.AB.get i3).Phase) (cond (Nat.beq i3 ((0 : Nat) + (Int.toNat x.E4))) (x.Bv.AB.get ((0 : Nat) + (Int.toNat x.E4))).Ring (x.Bv.AB.get i3).Ring) (cond (Nat.beq i3 ((0 : Nat) + (Int.toNat x.E4))) (x.Bv.AB.get ((0 : Nat) + (Int.toNat x.E4))).Status (x.Bv.AB.get i3).Status) (cond (Nat.beq i3 ((0 : Nat) + (Int.toNat x.E4))) (x.Bv.AB.get ((0 : Nat) + (Int.toNat x.E4))).AG (x.Bv.AB.get i3).AG) (fun i4 => (cond (Nat.beq i3 ((0 : Nat) + (Int.toNat x.E4))) ((x.Bv.AB.get ((0 : Nat) + (Int.toNat x.E4))).Ae i4) ((x.Bv.AB.get i3).Ae i4))) (Sl.mk (cond (Nat.beq i3 ((0 : Nat) + (Int.toNat x.E4))) y2.nil (x.Bv.AB.get i3).Seen.nil) (cond (Nat.beq i3 ((0 : Nat) + (Int.toNat x.E4))) y2.n (x.Bv.AB.get i3).Seen.n) (fun i4 => (cond (Nat.beq i3 ((0 : Nat) + (Int.toNat x.E4))) (y2.get i4) ((x.Bv.AB.get i3).Seen.get i4))))))) x.Bv.AF x.Bv.Ec x.Bv.Reads x.Bv.BO)))))))))
 (.side (∀ i2 : Nat, ((i2 < x.Bv.AB.n) → ((true && (true && (true && (true && (true && ((true && (true && (true && (true && (true && (true && (true && (true && true)))))))) && (true && true))))))) = true))) <|
 (.AM S_f1_9 D_f1_9 (X_f1_9.mk x.Ah x.Bv))))
theorem sd_f1_5 (D_f1_5 : AU X_f1_5 RR_f1) (x : X_f1_5) : (tt_f1_5 D_f1_5 x).AJ :=
 (TT.sI (TT.sN (TT.sN (TT.sC fun _ => (TT.sN (TT.sN (TT.sN TT.sJ)))))) (TT.sS (fun _ _ => rfl) TT.sJ))
theorem roT_f1_5 (D_f1_5 : AU X_f1_5 RR_f1) (r5 : ∀ x y, D_f1_5.rel x y → p_f1 y = w_f1_5 x) (x : X_f1_5) : TT.Ro p_f1 (w_f1_5 x) (tt_f1_5 D_f1_5 x) :=
 (TT.rI (TT.rN (TT.rN (TT.rC fun _ => (TT.rN (TT.rN (TT.rN (TT.rJ (r5 _)))))))) (TT.rS (TT.rJ (ro_f1_9 _))))
def D_f1_5 : AU X_f1_5 RR_f1 := AU.loop tt_f1_5
theorem ok_f1_5 : AY J_f1 S_f1_5 D_f1_5 :=
 A8 fun D_f1_5 h_5 => lk mxk (lbc h_5 rfl (lbc ok_f1_10 rfl (lbc ok_f1_9 rfl lbn))) (sd_f1_5 D_f1_5)
theorem ro_f1_5 : ∀ x y, D_f1_5.rel x y → p_f1 y = w_f1_5 x :=
 Kh fun D_f1_5 r5 => roT_f1_5 D_f1_5 r5
def tt_f1 (x : X_f1) : TT Tryz.prog RR_f1 :=
 (.call con_fh (Ar.mk x.threads.n x.threads.get) fun (y1 : R_fh) =>
 (.need ((true && true) && (Nat.beq x.threads.n x.threads.n)) <|
 (.need ((true && true) && (Nat.beq y1.n y1.n)) <|
 (.AM S_f1_5 D_f1_5 (X_f1_5.mk ((y1.n : Nat) : Int) 0 x (TSt.mk y1 (Sl.mk true 0 (fun _i2 => (TRs.mk 0 (Sl.mk true 0 (fun _i3 => (0 : Int))) false (Sl.mk true 0 (fun _i3 => (TSo.mk 0 0 0)))))) x.now x.reads x.ended))))))
theorem sd_f1 (x : X_f1) : (tt_f1 x).AJ :=
 (TT.sC fun _ => (TT.sN (TT.sN TT.sJ)))
theorem roT_f1 (x : X_f1) : TT.Ro p_f1 (w_f1 x) (tt_f1 x) :=
 (TT.rC fun _ => (TT.rN (TT.rN (TT.rJ (ro_f1_5 _)))))
def D_f1 : AU X_f1 R_f1 := .ro (.of tt_f1) (fun y => (y.1)) (fun y x => (y, x)) fun x y h => congrArg (fun o => (y.1, o)) (roT_f1 x y h)
def con_f1 : BE Tryz.prog :=
 Di 17 J_f1 S_f1 (.of tt_f1) D_f1 (fun y x => (y, x)) (fun y => e_TSt y) 1 1 [.any] (lk mxk (lbc ok_f1_10 rfl (lbc ok_f1_9 rfl (lbc ok_f1_5 rfl lbn))) sd_f1) (fun x => ⟨(nu_e_TFa : ∀ y, (e_TFa y).Cl) (x), trivial⟩)
abbrev X_f1e : Type := (Sl Int) × TEv × TFa
abbrev R_f1e : Type := TEv
abbrev RR_f1e : Type := TEv × TFa
abbrev p_f1e (y : RR_f1e) : TFa := y.2
abbrev w_f1e (x : X_f1e) : TFa := x.2.2
def J_f1e : BM Tryz.prog :=
 BS Tryz.prog Tryz.f82 30 [(22, 1)] [] [] [] [.any] [sh_TFa] [con_f1] RR_f1e [] fun y => [e_TEv y.1, e_TFa y.2]
def S_f1e : AO :=
 Aj Tryz.f82 3 1 X_f1e (fun x => [(V.ptr (.par 0) []), BG x.1, e_TEv x.2.1, e_TFa x.2.2]) fun l => (Bc (at_ l 1), d_TEv (at_ l 2), d_TFa (at_ l 3))
structure X_f1e_5 where
 Bl : (Sl Int)
 Ah : TFa
 BI : TEv
 FG : TEv
 Dv : TSt
def S_f1e_5 : AO :=
 Ad Tryz.f82 5 [(1, BP), (5, .any), (6, .any), (7, .any)] [sh_TFa] [(.loc 5 0, .any), (.loc 6 0, .any), (.loc 7 0, sh_TSt)] X_f1e_5 (fun x => [BG x.Bl, (V.ptr (.loc 5 0) []), (V.ptr (.loc 6 0) []), (V.ptr (.loc 7 0) []), e_TFa x.Ah, e_TEv x.BI, e_TEv x.FG, e_TSt x.Dv]) fun l => ⟨Bc (at_ l 0), d_TFa (at_ l 4), d_TEv (at_ l 5), d_TEv (at_ l 6), d_TSt (at_ l 7)⟩
abbrev w_f1e_5 (x : X_f1e_5) : TFa := (x.Ah)
def tt_f1e_5 (x : X_f1e_5) : TT Tryz.prog RR_f1e :=
 (.need (A6 x.Dv.Reads x.Bl.n) <|
 (.ret ((TEv.mk x.BI.Thread 10 x.BI.Ring x.BI.AG (x.Bl.get (Int.toNat x.Dv.Reads))), x.Ah)))
theorem sd_f1e_5 (x : X_f1e_5) : (tt_f1e_5 x).AJ :=
 (TT.sN TT.sR)
theorem roT_f1e_5 (x : X_f1e_5) : TT.Ro p_f1e (w_f1e_5 x) (tt_f1e_5 x) :=
 (TT.rN (TT.rR rfl))
def D_f1e_5 : AU X_f1e_5 RR_f1e := .of tt_f1e_5
theorem ok_f1e_5 : AY J_f1e S_f1e_5 D_f1e_5 :=
 lk mxk lbn sd_f1e_5
theorem ro_f1e_5 : ∀ x y, D_f1e_5.rel x y → p_f1e y = w_f1e_5 x :=
 roT_f1e_5 
def tt_f1e (x : X_f1e) : TT Tryz.prog RR_f1e :=
 (.call con_f1 x.snd.snd fun (y1 : R_f1) =>
 (.ite y1.BO
 (.ret ((TEv.mk x.snd.fst.Thread 11 x.snd.fst.Ring x.snd.fst.AG x.snd.fst.Value), x.snd.snd))
 (.ite (Bw (IntKind.u64.wrap ((x.fst.n : Nat) : Int)) y1.Reads)
 (.ret ((TEv.mk x.snd.fst.Thread 11 x.snd.fst.Ring x.snd.fst.AG x.snd.fst.Value), x.snd.snd))
 (.AM S_f1e_5 D_f1e_5 (X_f1e_5.mk x.fst x.snd.snd x.snd.fst (TEv.mk 0 0 0 0 0) y1)))))
theorem sd_f1e (x : X_f1e) : (tt_f1e x).AJ :=
 (TT.sC fun _ => (TT.sI TT.sR (TT.sI TT.sR TT.sJ)))
theorem roT_f1e (x : X_f1e) : TT.Ro p_f1e (w_f1e x) (tt_f1e x) :=
 (TT.rC fun _ => (TT.rI (TT.rR rfl) (TT.rI (TT.rR rfl) (TT.rJ (ro_f1e_5 _)))))
def D_f1e : AU X_f1e R_f1e := .ro (.of tt_f1e) (fun y => (y.1)) (fun y x => (y, x.2.2)) fun x y h => congrArg (fun o => (y.1, o)) (roT_f1e x y h)
def con_f1e : BE Tryz.prog :=
 Di 82 J_f1e S_f1e (.of tt_f1e) D_f1e (fun y x => (y, x.2.2)) (fun y => e_TEv y) 3 1 [.any, BP, .any] (lk mxk (lbc ok_f1e_5 rfl lbn) sd_f1e) (fun x => ⟨(nu_e_TFa : ∀ y, (e_TFa y).Cl) (x.2.2), trivial⟩)
abbrev Q9 : Type := (Sl ByteArray)
def Qt : Q9 → V := (MX none 1 V.str)
def Um : V → Q9 := (L9 dS)
def Qn : Sh := (.sl none 1 (V.str (dS .undef)))
abbrev X_f3w : Type := Unit
abbrev R_f3w : Type := (Sl ByteArray)
def J_f3w : BM Tryz.prog :=
 BS Tryz.prog Tryz.f184 2 [] [] [] [.E0 0] [Qn] [] [] R_f3w [] fun y => [Qt y]
def S_f3w : AO :=
 Aj Tryz.f184 0 0 X_f3w (fun _x => []) fun _l => ()
def tt_f3w (_x : X_f3w) : TT Tryz.prog R_f3w :=
 (.ret (Sl.mk false 15 (fun i1 => (cond (Nat.beq i1 0) (ByteArray.mk #[99, 108, 97, 105, 109]) (cond (Nat.beq i1 1) (ByteArray.mk #[112, 117, 98, 108, 105, 115, 104]) (cond (Nat.beq i1 2) (ByteArray.mk #[116, 97, 107, 101]) (cond (Nat.beq i1 3) (ByteArray.mk #[114, 101, 108, 101, 97, 115, 101]) (cond (Nat.beq i1 4) (ByteArray.mk #[110, 111]) (cond (Nat.beq i1 5) (ByteArray.mk #[115, 104, 117, 116]) (cond (Nat.beq i1 6) (ByteArray.mk #[116, 105, 109, 101]) (cond (Nat.beq i1 7) (ByteArray.mk #[99, 108, 111, 99, 107]) (cond (Nat.beq i1 8) (ByteArray.mk #[100, 114, 97, 119]) (cond (Nat.beq i1 9) (ByteArray.mk #[114, 101, 97, 100]) (cond (Nat.beq i1 10) (ByteArray.mk #[101, 110, 100]) (cond (Nat.beq i1 11) (ByteArray.mk #[115, 101, 101]) (cond (Nat.beq i1 12) (ByteArray.mk #[99, 108, 111, 115, 101]) (cond (Nat.beq i1 13) (ByteArray.mk #[104, 97, 108, 116]) (ByteArray.mk #[115, 112, 105, 110]))))))))))))))))))
theorem sd_f3w (x : X_f3w) : (tt_f3w x).AJ :=
 TT.sR
def D_f3w : AU X_f3w R_f3w := .of tt_f3w
def con_f3w : BE Tryz.prog :=
 B2 184 J_f3w S_f3w D_f3w 0 0 [] (lk mxk lbn sd_f3w)
abbrev X_f2b : Type := Int
abbrev R_f2b : Type := ByteArray
def J_f2b : BM Tryz.prog :=
 BS Tryz.prog Tryz.f159 14 [] [] [] [] [.any] [] [con_f3w] R_f2b [] fun y => [V.str y]
def S_f2b : AO :=
 Aj Tryz.f159 1 0 X_f2b (fun x => [(V.int .i64) x]) fun l => (dI (at_ l 0))
structure X_f2b_3 where
 IM : Int
def S_f2b_3 : AO :=
 Ad Tryz.f159 3 [(0, .any)] [] [] X_f2b_3 (fun x => [(V.int .i64) x.IM]) fun l => ⟨dI (at_ l 0)⟩
def tt_f2b_3 (x : X_f2b_3) : TT Tryz.prog R_f2b :=
 (.call con_f3w PUnit.unit fun (y1 : R_f3w) =>
 (.need (A6 (IntKind.i64.wrap (x.IM - 1)) y1.n) <|
 (.ret (y1.get (Int.toNat (IntKind.i64.wrap (x.IM - 1)))))))
theorem sd_f2b_3 (x : X_f2b_3) : (tt_f2b_3 x).AJ :=
 (TT.sC fun _ => (TT.sN TT.sR))
def D_f2b_3 : AU X_f2b_3 R_f2b := .of tt_f2b_3
theorem ok_f2b_3 : AY J_f2b S_f2b_3 D_f2b_3 :=
 lk mxk lbn sd_f2b_3
def tt_f2b (x : X_f2b) : TT Tryz.prog R_f2b :=
 (.ite (Bq x 1)
 (.ret (ByteArray.mk #[]))
 (.ite (Bq 15 x)
 (.ret (ByteArray.mk #[]))
 (.AM S_f2b_3 D_f2b_3 (X_f2b_3.mk x))))
theorem sd_f2b (x : X_f2b) : (tt_f2b x).AJ :=
 (TT.sI TT.sR (TT.sI TT.sR TT.sJ))
def D_f2b : AU X_f2b R_f2b := .of tt_f2b
def con_f2b : BE Tryz.prog :=
 B2 159 J_f2b S_f2b D_f2b 1 0 [.any] (lk mxk (lbc ok_f2b_3 rfl lbn) sd_f2b)
abbrev X_f2v : Type := Int
abbrev R_f2v : Type := Bool
def J_f2v : BM Tryz.prog :=
 BS Tryz.prog Tryz.f186 13 [] [] [] [] [.any] [] [] R_f2v [] fun y => [V.bool y]
def S_f2v : AO :=
 Aj Tryz.f186 1 0 X_f2v (fun x => [(V.int .i64) x]) fun l => (dI (at_ l 0))
def tt_f2v (x : X_f2v) : TT Tryz.prog R_f2v :=
 (.ite (Bw 1 x)
 (.ite (Bw x 4)
 (.ret true)
 (.ret (AW x 13)))
 (.ret (AW x 13)))
theorem sd_f2v (x : X_f2v) : (tt_f2v x).AJ :=
 (TT.sI (TT.sI TT.sR TT.sR) TT.sR)
def D_f2v : AU X_f2v R_f2v := .of tt_f2v
def con_f2v : BE Tryz.prog :=
 B2 186 J_f2v S_f2v D_f2v 1 0 [.any] (lk mxk lbn sd_f2v)
abbrev X_f39 : Type := Int
abbrev R_f39 : Type := Bool
def J_f39 : BM Tryz.prog :=
 BS Tryz.prog Tryz.f185 13 [] [] [] [] [.any] [] [con_f2v] R_f39 [] fun y => [V.bool y]
def S_f39 : AO :=
 Aj Tryz.f185 1 0 X_f39 (fun x => [(V.int .i64) x]) fun l => (dI (at_ l 0))
def tt_f39 (x : X_f39) : TT Tryz.prog R_f39 :=
 (.call con_f2v x fun (y1 : R_f2v) =>
 (.ite y1
 (.ret true)
 (.ite (Bw 5 x)
 (.ret (Bw x 7))
 (.ret false))))
theorem sd_f39 (x : X_f39) : (tt_f39 x).AJ :=
 (TT.sC fun _ => (TT.sI TT.sR (TT.sI TT.sR TT.sR)))
def D_f39 : AU X_f39 R_f39 := .of tt_f39
def con_f39 : BE Tryz.prog :=
 B2 185 J_f39 S_f39 D_f39 1 0 [.any] (lk mxk lbn sd_f39)
abbrev X_f3f : Type := Int
abbrev R_f3f : Type := Bool
def J_f3f : BM Tryz.prog :=
 BS Tryz.prog Tryz.f187 13 [] [] [] [] [.any] [] [] R_f3f [] fun y => [V.bool y]
def S_f3f : AO :=
 Aj Tryz.f187 1 0 X_f3f (fun x => [(V.int .i64) x]) fun l => (dI (at_ l 0))
def tt_f3f (x : X_f3f) : TT Tryz.prog R_f3f :=
 (.ite (Bw 8 x)
 (.ite (Bw x 10)
 (.ret true)
 (.ret (AW x 12)))
 (.ret (AW x 12)))
theorem sd_f3f (x : X_f3f) : (tt_f3f x).AJ :=
 (TT.sI (TT.sI TT.sR TT.sR) TT.sR)
def D_f3f : AU X_f3f R_f3f := .of tt_f3f
def con_f3f : BE Tryz.prog :=
 B2 187 J_f3f S_f3f D_f3f 1 0 [.any] (lk mxk lbn sd_f3f)
abbrev X_f11 : Type := TEv
abbrev R_f11 : Type := TEv
def J_f11 : BM Tryz.prog :=
 BS Tryz.prog Tryz.f160 19 [] [] [] [] [.any] [] [con_f39, con_f2v, con_f3f] R_f11 [] fun y => [e_TEv y]
def S_f11 : AO :=
 Aj Tryz.f160 1 0 X_f11 (fun x => [e_TEv x]) fun l => (d_TEv (at_ l 0))
structure X_f11_3 where
 P4 : TEv
 Bv : TEv
def S_f11_3 : AO :=
 Ad Tryz.f160 3 (an [1, 2]) [] [(.loc 1 0, .any), (.loc 2 0, .any)] X_f11_3 (fun x => [(V.ptr (.loc 1 0) []), (V.ptr (.loc 2 0) []), e_TEv x.P4, e_TEv x.Bv]) fun l => ⟨d_TEv (at_ l 2), d_TEv (at_ l 3)⟩
structure X_f11_5 where
 P4 : TEv
 Bv : TEv
def S_f11_5 : AO :=
 Ad Tryz.f160 5 (an [1, 2]) [] [(.loc 1 0, .any), (.loc 2 0, .any)] X_f11_5 (fun x => [(V.ptr (.loc 1 0) []), (V.ptr (.loc 2 0) []), e_TEv x.P4, e_TEv x.Bv]) fun l => ⟨d_TEv (at_ l 2), d_TEv (at_ l 3)⟩
def tt_f11_5 (x : X_f11_5) : TT Tryz.prog R_f11 :=
 (.call con_f3f x.P4.Kind fun (y1 : R_f3f) =>
 (.ite (!y1)
 (.ret (TEv.mk x.P4.Thread x.P4.Kind x.P4.Ring x.P4.AG 0))
 (.ret x.P4)))
theorem sd_f11_5 (x : X_f11_5) : (tt_f11_5 x).AJ :=
 (TT.sC fun _ => (TT.sI TT.sR TT.sR))
def D_f11_5 : AU X_f11_5 R_f11 := .of tt_f11_5
theorem ok_f11_5 : AY J_f11 S_f11_5 D_f11_5 :=
 lk mxk lbn sd_f11_5
def tt_f11_3 (x : X_f11_3) : TT Tryz.prog R_f11 :=
 (.call con_f2v x.P4.Kind fun (y1 : R_f2v) =>
 (.ite (!y1)
 (.AM S_f11_5 D_f11_5 (X_f11_5.mk (TEv.mk x.P4.Thread x.P4.Kind x.P4.Ring 0 x.P4.Value) x.Bv))
 (.AM S_f11_5 D_f11_5 (X_f11_5.mk x.P4 x.Bv))))
theorem sd_f11_3 (x : X_f11_3) : (tt_f11_3 x).AJ :=
 (TT.sC fun _ => (TT.sI TT.sJ TT.sJ))
def D_f11_3 : AU X_f11_3 R_f11 := .of tt_f11_3
theorem ok_f11_3 : AY J_f11 S_f11_3 D_f11_3 :=
 lk mxk (lbc ok_f11_5 rfl lbn) sd_f11_3
def tt_f11 (x : X_f11) : TT Tryz.prog R_f11 :=
 (.call con_f39 x.Kind fun (y1 : R_f39) =>
 (.ite (!y1)
 (.AM S_f11_3 D_f11_3 (X_f11_3.mk (TEv.mk x.Thread x.Kind 0 x.AG x.Value) (TEv.mk 0 0 0 0 0)))
 (.AM S_f11_3 D_f11_3 (X_f11_3.mk x (TEv.mk 0 0 0 0 0)))))
theorem sd_f11 (x : X_f11) : (tt_f11 x).AJ :=
 (TT.sC fun _ => (TT.sI TT.sJ TT.sJ))
def D_f11 : AU X_f11 R_f11 := .of tt_f11
def con_f11 : BE Tryz.prog :=
 B2 160 J_f11 S_f11 D_f11 1 0 [.any] (lk mxk (lbc ok_f11_5 rfl (lbc ok_f11_3 rfl lbn)) sd_f11)
abbrev X_f3a : Type := TEv
abbrev R_f3a : Type := Bool
def J_f3a : BM Tryz.prog :=
 BS Tryz.prog Tryz.f112 38 [(1, 3)] [] [] [] [.any] [] [con_f2b, con_f11] R_f3a [] fun y => [V.bool y]
def S_f3a : AO :=
 Aj Tryz.f112 1 0 X_f3a (fun x => [e_TEv x]) fun l => (d_TEv (at_ l 0))
def tt_f3a (x : X_f3a) : TT Tryz.prog R_f3a :=
 (.call con_f2b x.Kind fun (y1 : R_f2b) =>
 (.ite (!(seq y1 (ByteArray.mk #[])))
 (.call con_f11 x fun (y2 : R_f11) =>
 (.ite ((AW x.Thread y2.Thread) && ((AW x.Kind y2.Kind) && ((AW x.Ring y2.Ring) && ((AW x.AG y2.AG) && ((AW x.Value y2.Value) && true)))))
 (.ite (Bw 0 x.Thread)
 (.ite (Bq x.Thread 8)
 (.ite (Bw 0 x.Ring)
 (.ite (Bq x.Ring 8)
 (.ret (Bq x.AG 4611686018427387904))
 (.ret false))
 (.ret false))
 (.ret false))
 (.ret false))
 (.ret false)))
 (.ret false)))
theorem sd_f3a (x : X_f3a) : (tt_f3a x).AJ :=
 (TT.sC fun _ => (TT.sI (TT.sC fun _ => (TT.sI (TT.sI (TT.sI (TT.sI (TT.sI TT.sR TT.sR) TT.sR) TT.sR) TT.sR) TT.sR)) TT.sR))
def D_f3a : AU X_f3a R_f3a := .of tt_f3a
def con_f3a : BE Tryz.prog :=
 B2 112 J_f3a S_f3a D_f3a 1 0 [.any] (lk mxk lbn sd_f3a)
abbrev X_f2t : Type := Int
abbrev R_f2t : Type := Int
def J_f2t : BM Tryz.prog :=
 BS Tryz.prog Tryz.f188 25 [] [] [] [] [.any] [] [] R_f2t [] fun y => [(V.int .i64) y]
def S_f2t : AO :=
 Aj Tryz.f188 1 0 X_f2t (fun x => [(V.int .i64) x]) fun l => (dI (at_ l 0))
def tt_f2t (x : X_f2t) : TT Tryz.prog R_f2t :=
 (.ite (AW x 1)
 (.ret 1)
 (.ite (AW x 2)
 (.ret 10)
 (.ite (AW x 3)
 (.ret 2)
 (.ite (AW x 4)
 (.ret 11)
 (.ite (AW x 8)
 (.ret 4)
 (.ite (AW x 9)
 (.ret 5)
 (.ite (AW x 10)
 (.ret 6)
 (.ite (AW x 11)
 (.ret 6)
 (.ite (AW x 12)
 (.ret 7)
 (.ite (AW x 13)
 (.ret 3)
 (.ite (AW x 14)
 (.ret 8)
 (.ret 9))))))))))))
theorem sd_f2t (x : X_f2t) : (tt_f2t x).AJ :=
 (TT.sI TT.sR (TT.sI TT.sR (TT.sI TT.sR (TT.sI TT.sR (TT.sI TT.sR (TT.sI TT.sR (TT.sI TT.sR (TT.sI TT.sR (TT.sI TT.sR (TT.sI TT.sR (TT.sI TT.sR TT.sR)))))))))))
def D_f2t : AU X_f2t R_f2t := .of tt_f2t
def con_f2t : BE Tryz.prog :=
 B2 188 J_f2t S_f2t D_f2t 1 0 [.any] (lk mxk lbn sd_f2t)
end Go.Proofs.YtiamaibincaihaaGreat
end
