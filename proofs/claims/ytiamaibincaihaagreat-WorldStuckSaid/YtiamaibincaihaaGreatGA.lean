/- What functions of the program come to, part A: no statement is proved here. -/
import Derived.Test.YtiamaibincaihaaGreatM
import Derived.Test.YtiamaibincaihaaGreatProg
import Derived.KernelRfl
noncomputable section
namespace Go.Proofs.YtiamaibincaihaaGreat
open Go Go.Vm Go.Proofs
set_option maxRecDepth 100000
set_option maxHeartbeats 4000000
theorem mxk : Tryz.prog.follows .mixedOrders = true := by kernel_rfl
def d_TRg (v : V) : TRg :=
 ⟨dI (fd v 0), dI (fd v 1), dI (fd v 2)⟩
def e_TRg (x : TRg) : V :=
 V.cons ((V.int .i64) x.Kind) (V.cons ((V.int .i64) x.Ee) (V.cons ((V.int .i64) x.Aa) (V.unit)))
theorem nu_e_TRg (x : TRg) : (e_TRg x).Cd := ⟨trivial, trivial, trivial, trivial⟩
abbrev Dsl_TRg : Type := (Sl TRg)
def esl_TRg : Dsl_TRg → V := (Lu none 3 e_TRg)
def dsl_TRg : V → Dsl_TRg := (LU d_TRg)
def hsl_TRg : Sh := (.sl none 3 (e_TRg (d_TRg .undef)))
def d_TIn (v : V) : TIn :=
 ⟨dI (fd v 0), dI (fd v 1), dI (fd v 2), dI (fd v 3), dI (fd v 4), dI (fd v 5)⟩
def e_TIn (x : TIn) : V :=
 V.cons ((V.int .i64) x.Op) (V.cons ((V.int .i64) x.A) (V.cons ((V.int .i64) x.B) (V.cons ((V.int .i64) x.C) (V.cons ((V.int .i64) x.D) (V.cons ((V.int .u64) x.K) (V.unit))))))
theorem nu_e_TIn (x : TIn) : (e_TIn x).Cd := ⟨trivial, trivial, trivial, trivial, trivial, trivial, trivial⟩
abbrev Dsl_TIn : Type := (Sl TIn)
def esl_TIn : Dsl_TIn → V := (Lu none 6 e_TIn)
def dsl_TIn : V → Dsl_TIn := (LU d_TIn)
def hsl_TIn : Sh := (.sl none 6 (e_TIn (d_TIn .undef)))
abbrev Dsl_sl_TIn : Type := (Sl (Sl TIn))
def esl_sl_TIn : Dsl_sl_TIn → V := (Lu none 1 esl_TIn)
def dsl_sl_TIn : V → Dsl_sl_TIn := (LU dsl_TIn)
def hsl_sl_TIn : Sh := (.sl none 1 (esl_TIn (dsl_TIn .undef)))
structure TPg where
 AF : (Sl TRg)
 AB : (Sl (Sl TIn))
def d_TPg (v : V) : TPg :=
 ⟨dsl_TRg (fd v 0), dsl_sl_TIn (fd v 1)⟩
def e_TPg (x : TPg) : V :=
 V.cons (esl_TRg x.AF) (V.cons (esl_sl_TIn x.AB) (V.unit))
theorem nu_e_TPg (x : TPg) : (e_TPg x).Cd := ⟨trivial, trivial, trivial⟩
def sh_TPg : Sh := (.cons hsl_TRg (.cons hsl_sl_TIn .any))
abbrev X_f32 : Type := Unit
abbrev R_f32 : Type := TPg
def J_f32 : BT Tryz.prog :=
 Bg Tryz.prog Tryz.f36 5 [] [] [] [] [sh_TPg] [] [] R_f32 [] fun y => [e_TPg y]
def S_f32 : AR :=
 Aq Tryz.f36 0 0 X_f32 (fun _x => []) fun _l => ()
def tt_f32 (_x : X_f32) : TT Tryz.prog R_f32 :=
 (.ret (TPg.mk (Sl.mk true 0 (fun _i1 => (TRg.mk 0 0 0))) (Sl.mk false 1 (fun _i1 => (Sl.mk false 1 (fun _i2 => (TIn.mk 25 0 0 0 0 0)))))))
theorem sd_f32 (x : X_f32) : (tt_f32 x).AJ :=
 TT.sR
def D_f32 : AS X_f32 R_f32 := .of tt_f32
def con_f32 : BN Tryz.prog :=
 CY 36 J_f32 S_f32 D_f32 0 0 [] (lk mxk lbn sd_f32)
abbrev X_f1v : Type := TRg
abbrev R_f1v : Type := Bool
def J_f1v : BT Tryz.prog :=
 Bg Tryz.prog Tryz.f129 34 [(1, 3)] [] [] [] [.any] [] [] R_f1v [] fun y => [V.bool y]
def S_f1v : AR :=
 Aq Tryz.f129 1 0 X_f1v (fun x => [e_TRg x]) fun l => (d_TRg (at_ l 0))
structure X_f1v_3 where
 NA : TRg
def S_f1v_3 : AR :=
 Ai Tryz.f129 3 [(1, .any)] [] [] X_f1v_3 (fun x => [(DO e_TRg) x.NA]) fun l => ⟨(DP d_TRg) (at_ l 0)⟩
def tt_f1v_3 (x : X_f1v_3) : TT Tryz.prog R_f1v :=
 (.ite (Ae x.NA.Kind 1)
 (.ite (Ae x.NA.Aa 1)
 (.ret true)
 (.ite (Ae x.NA.Kind 2)
 (.ite (B6 1 x.NA.Aa)
 (.ret (B6 x.NA.Aa 8))
 (.ret false))
 (.ret false)))
 (.ite (Ae x.NA.Kind 2)
 (.ite (B6 1 x.NA.Aa)
 (.ret (B6 x.NA.Aa 8))
 (.ret false))
 (.ret false)))
theorem sd_f1v_3 (x : X_f1v_3) : (tt_f1v_3 x).AJ :=
 (TT.sI (TT.sI TT.sR (TT.sI (TT.sI TT.sR TT.sR) TT.sR)) (TT.sI (TT.sI TT.sR TT.sR) TT.sR))
def D_f1v_3 : AS X_f1v_3 R_f1v := .of tt_f1v_3
theorem ok_f1v_3 : AX J_f1v S_f1v_3 D_f1v_3 :=
 lk mxk lbn sd_f1v_3
def tt_f1v (x : X_f1v) : TT Tryz.prog R_f1v :=
 (.ite (B8 x.Ee 1)
 (.ret false)
 (.ite (B8 64 x.Ee)
 (.ret false)
 (.Ab S_f1v_3 D_f1v_3 (X_f1v_3.mk x))))
theorem sd_f1v (x : X_f1v) : (tt_f1v x).AJ :=
 (TT.sI TT.sR (TT.sI TT.sR TT.sJ))
def D_f1v : AS X_f1v R_f1v := .of tt_f1v
def con_f1v : BN Tryz.prog :=
 CY 129 J_f1v S_f1v D_f1v 1 0 [.any] (lk mxk (lbc ok_f1v_3 rfl lbn) sd_f1v)
abbrev X_f2w : Type := Int
abbrev R_f2w : Type := Bool
def J_f2w : BT Tryz.prog :=
 Bg Tryz.prog Tryz.f196 9 [] [] [] [] [.any] [] [] R_f2w [] fun y => [V.bool y]
def S_f2w : AR :=
 Aq Tryz.f196 1 0 X_f2w (fun x => [(V.int .i64) x]) fun l => (dI (at_ l 0))
def tt_f2w (x : X_f2w) : TT Tryz.prog R_f2w :=
 (.ite (B6 1 x)
 (.ret (B6 x 17))
 (.ret false))
theorem sd_f2w (x : X_f2w) : (tt_f2w x).AJ :=
 (TT.sI TT.sR TT.sR)
def D_f2w : AS X_f2w R_f2w := .of tt_f2w
def con_f2w : BN Tryz.prog :=
 CY 196 J_f2w S_f2w D_f2w 1 0 [.any] (lk mxk lbn sd_f2w)
structure TCl where
 a : Int
 b : Int
 c : Int
 d : Int
 k : Int
def d_TCl (v : V) : TCl :=
 ⟨dI (fd v 0), dI (fd v 1), dI (fd v 2), dI (fd v 3), dI (fd v 4)⟩
def e_TCl (x : TCl) : V :=
 V.cons ((V.int .i64) x.a) (V.cons ((V.int .i64) x.b) (V.cons ((V.int .i64) x.c) (V.cons ((V.int .i64) x.d) (V.cons ((V.int .u64) x.k) (V.unit)))))
theorem nu_e_TCl (x : TCl) : (e_TCl x).Cd := ⟨trivial, trivial, trivial, trivial, trivial, trivial⟩
abbrev X_f1u : Type := Int
abbrev R_f1u : Type := TCl × Bool
def J_f1u : BT Tryz.prog :=
 Bg Tryz.prog Tryz.f181 39 [] [] [] [] [.any, .any] [] [con_f2w] R_f1u [] fun y => [V.CR (V.cons (e_TCl y.1) (V.cons (V.bool y.2) (V.unit)))]
def S_f1u : AR :=
 Aq Tryz.f181 1 0 X_f1u (fun x => [(V.int .i64) x]) fun l => (dI (at_ l 0))
structure X_f1u_24 where
 VA : Int
 CO : TCl
def S_f1u_24 : AR :=
 Ai Tryz.f181 24 (an [0, 2]) [] [(.loc 2 0, .any)] X_f1u_24 (fun x => [(V.int .i64) x.VA, (V.ptr (.loc 2 0) []), e_TCl x.CO]) fun l => ⟨dI (at_ l 0), d_TCl (at_ l 2)⟩
def tt_f1u_24 (x : X_f1u_24) : TT Tryz.prog R_f1u :=
 (.call con_f2w x.VA fun (y1 : R_f2w) =>
 (.ret ((TCl.mk 7 7 7 0 0), y1)))
theorem sd_f1u_24 (x : X_f1u_24) : (tt_f1u_24 x).AJ :=
 (TT.sC fun _ => TT.sR)
def D_f1u_24 : AS X_f1u_24 R_f1u := .of tt_f1u_24
theorem ok_f1u_24 : AX J_f1u S_f1u_24 D_f1u_24 :=
 lk mxk lbn sd_f1u_24
def tt_f1u (x : X_f1u) : TT Tryz.prog R_f1u :=
 (.ite (Ae x 1)
 (.ret ((TCl.mk 7 0 0 0 18446744073709551615), true))
 (.ite (Ae x 2)
 (.ret ((TCl.mk 7 7 0 0 0), true))
 (.ite (Ae x 23)
 (.ret ((TCl.mk 7 7 0 0 0), true))
 (.ite (Ae x 15)
 (.ret ((TCl.mk 0 0 0 0 256), true))
 (.ite (Ae x 16)
 (.ret ((TCl.mk 7 0 0 0 256), true))
 (.ite (Ae x 17)
 (.ret ((TCl.mk 7 0 0 0 256), true))
 (.ite (Ae x 18)
 (.ret ((TCl.mk 7 7 7 2 0), true))
 (.ite (Ae x 19)
 (.ret ((TCl.mk 7 7 7 2 7), true))
 (.ite (Ae x 20)
 (.ret ((TCl.mk 0 0 7 0 0), true))
 (.ite (Ae x 21)
 (.ret ((TCl.mk 7 0 0 0 0), true))
 (.ite (Ae x 22)
 (.ret ((TCl.mk 7 0 0 0 0), true))
 (.ite (Ae x 24)
 (.ret ((TCl.mk 7 0 0 0 0), true))
 (.ite (Ae x 25)
 (.ret ((TCl.mk 0 0 0 0 0), true))
 (.Ab S_f1u_24 D_f1u_24 (X_f1u_24.mk x (TCl.mk 0 0 0 0 0))))))))))))))))
theorem sd_f1u (x : X_f1u) : (tt_f1u x).AJ :=
 (TT.sI TT.sR (TT.sI TT.sR (TT.sI TT.sR (TT.sI TT.sR (TT.sI TT.sR (TT.sI TT.sR (TT.sI TT.sR (TT.sI TT.sR (TT.sI TT.sR (TT.sI TT.sR (TT.sI TT.sR (TT.sI TT.sR (TT.sI TT.sR TT.sJ)))))))))))))
def D_f1u : AS X_f1u R_f1u := .of tt_f1u
def con_f1u : BN Tryz.prog :=
 CY 181 J_f1u S_f1u D_f1u 1 0 [.any] (lk mxk (lbc ok_f1u_24 rfl lbn) sd_f1u)
abbrev X_f2x : Type := TIn
abbrev R_f2x : Type := Bool
def J_f2x : BT Tryz.prog :=
 Bg Tryz.prog Tryz.f152 67 [(1, 3), (5, 1)] [] [] [] [.any] [] [con_f1u] R_f2x [] fun y => [V.bool y]
def S_f2x : AR :=
 Aq Tryz.f152 1 0 X_f2x (fun x => [e_TIn x]) fun l => (d_TIn (at_ l 0))
def tt_f2x (x : X_f2x) : TT Tryz.prog R_f2x :=
 (.call con_f1u x.Op fun (y1 : R_f1u) =>
 (.ite y1.snd
 (.ite (B6 0 x.A)
 (.ite (B6 x.A y1.fst.a)
 (.ite (B6 0 x.B)
 (.ite (B6 x.B y1.fst.b)
 (.ite (B6 0 x.C)
 (.ite (B6 x.C y1.fst.c)
 (.ite (B6 0 x.D)
 (.ite (B6 x.D y1.fst.d)
 (.ret (B6 x.K y1.fst.k))
 (.ret false))
 (.ret false))
 (.ret false))
 (.ret false))
 (.ret false))
 (.ret false))
 (.ret false))
 (.ret false))
 (.ret false)))
theorem sd_f2x (x : X_f2x) : (tt_f2x x).AJ :=
 (TT.sC fun _ => (TT.sI (TT.sI (TT.sI (TT.sI (TT.sI (TT.sI (TT.sI (TT.sI (TT.sI TT.sR TT.sR) TT.sR) TT.sR) TT.sR) TT.sR) TT.sR) TT.sR) TT.sR) TT.sR))
def D_f2x : AS X_f2x R_f2x := .of tt_f2x
def con_f2x : BN Tryz.prog :=
 CY 152 J_f2x S_f2x D_f2x 1 0 [.any] (lk mxk lbn sd_f2x)
abbrev X_f2y : Type := TIn
abbrev R_f2y : Type := Bool
def J_f2y : BT Tryz.prog :=
 Bg Tryz.prog Tryz.f153 11 [(1, 3)] [] [] [] [.any] [] [] R_f2y [] fun y => [V.bool y]
def S_f2y : AR :=
 Aq Tryz.f153 1 0 X_f2y (fun x => [e_TIn x]) fun l => (d_TIn (at_ l 0))
def tt_f2y (x : X_f2y) : TT Tryz.prog R_f2y :=
 (.ite (B6 15 x.Op)
 (.ret (B6 x.Op 17))
 (.ret false))
theorem sd_f2y (x : X_f2y) : (tt_f2y x).AJ :=
 (TT.sI TT.sR TT.sR)
def D_f2y : AS X_f2y R_f2y := .of tt_f2y
def con_f2y : BN Tryz.prog :=
 CY 153 J_f2y S_f2y D_f2y 1 0 [.any] (lk mxk lbn sd_f2y)
abbrev X_f2u : Type := Int
abbrev R_f2u : Type := Bool
def J_f2u : BT Tryz.prog :=
 Bg Tryz.prog Tryz.f171 13 [] [] [] [] [.any] [] [] R_f2u [] fun y => [V.bool y]
def S_f2u : AR :=
 Aq Tryz.f171 1 0 X_f2u (fun x => [(V.int .i64) x]) fun l => (dI (at_ l 0))
def tt_f2u (x : X_f2u) : TT Tryz.prog R_f2u :=
 (.ite (Ae x 18)
 (.ret true)
 (.ite (Ae x 19)
 (.ret true)
 (.ret (Ae x 20))))
theorem sd_f2u (x : X_f2u) : (tt_f2u x).AJ :=
 (TT.sI TT.sR (TT.sI TT.sR TT.sR))
def D_f2u : AS X_f2u R_f2u := .of tt_f2u
def con_f2u : BN Tryz.prog :=
 CY 171 J_f2u S_f2u D_f2u 1 0 [.any] (lk mxk lbn sd_f2u)
abbrev X_f2z : Type := TPg × TIn × Int
abbrev R_f2z : Type := Int
def J_f2z : BT Tryz.prog :=
 Bg Tryz.prog Tryz.f130 50 [(3, 3), (4, 3)] [] [] [] [.any] [] [con_f2u, con_f2y, con_f2x] R_f2z [] fun y => [(V.int .i64) y]
def S_f2z : AR :=
 Aq Tryz.f130 3 0 X_f2z (fun x => [e_TPg x.1, e_TIn x.2.1, (V.int .i64) x.2.2]) fun l => (d_TPg (at_ l 0), d_TIn (at_ l 1), dI (at_ l 2))
def tt_f2z (x : X_f2z) : TT Tryz.prog R_f2z :=
 (.call con_f2x x.snd.fst fun (y1 : R_f2x) =>
 (.ite (!y1)
 (.ret 6)
 (.call con_f2y x.snd.fst fun (y2 : R_f2y) =>
 (.ite y2
 (.ite (B8 (IntKind.u64.wrap x.snd.snd) x.snd.fst.K)
 (.ret 5)
 (.call con_f2u x.snd.fst.Op fun (y3 : R_f2u) =>
 (.ite y3
 (.ite (B6 ((x.fst.AF.n : Nat) : Int) x.snd.fst.C)
 (.ret 7)
 (.ite (Ae x.snd.fst.Op 19)
 (.need (BQ x.snd.fst.C x.fst.AF.n) <|
 (.ite (B6 (IntKind.u64.wrap (x.fst.AF.get (Int.toNat x.snd.fst.C)).Aa) x.snd.fst.K)
 (.ret 7)
 (.ret 0)))
 (.ret 0)))
 (.ite (Ae x.snd.fst.Op 19)
 (.need (BQ x.snd.fst.C x.fst.AF.n) <|
 (.ite (B6 (IntKind.u64.wrap (x.fst.AF.get (Int.toNat x.snd.fst.C)).Aa) x.snd.fst.K)
 (.ret 7)
 (.ret 0)))
 (.ret 0)))))
 (.call con_f2u x.snd.fst.Op fun (y3 : R_f2u) =>
 (.ite y3
 (.ite (B6 ((x.fst.AF.n : Nat) : Int) x.snd.fst.C)
 (.ret 7)
 (.ite (Ae x.snd.fst.Op 19)
 (.need (BQ x.snd.fst.C x.fst.AF.n) <|
 (.ite (B6 (IntKind.u64.wrap (x.fst.AF.get (Int.toNat x.snd.fst.C)).Aa) x.snd.fst.K)
 (.ret 7)
 (.ret 0)))
 (.ret 0)))
 (.ite (Ae x.snd.fst.Op 19)
 (.need (BQ x.snd.fst.C x.fst.AF.n) <|
 (.ite (B6 (IntKind.u64.wrap (x.fst.AF.get (Int.toNat x.snd.fst.C)).Aa) x.snd.fst.K)
 (.ret 7)
 (.ret 0)))
 (.ret 0))))))))
theorem sd_f2z (x : X_f2z) : (tt_f2z x).AJ :=
 (TT.sC fun _ => (TT.sI TT.sR (TT.sC fun _ => (TT.sI (TT.sI TT.sR (TT.sC fun _ => (TT.sI (TT.sI TT.sR (TT.sI (TT.sN (TT.sI TT.sR TT.sR)) TT.sR)) (TT.sI (TT.sN (TT.sI TT.sR TT.sR)) TT.sR)))) (TT.sC fun _ => (TT.sI (TT.sI TT.sR (TT.sI (TT.sN (TT.sI TT.sR TT.sR)) TT.sR)) (TT.sI (TT.sN (TT.sI TT.sR TT.sR)) TT.sR)))))))
def D_f2z : AS X_f2z R_f2z := .of tt_f2z
def con_f2z : BN Tryz.prog :=
 CY 130 J_f2z S_f2z D_f2z 3 0 [sh_TPg, .any, .any] (lk mxk lbn sd_f2z)
abbrev X_f3 : Type := TPg
abbrev R_f3 : Type := Int × Int × Int
def J_f3 : BT Tryz.prog :=
 Bg Tryz.prog Tryz.f71 72 [(1, 3)] [] [] [] [.any, .any, .any] [] [con_f2z, con_f1v] R_f3 [] fun y => [V.CR (V.cons ((V.int .i64) y.1) (V.cons ((V.int .i64) y.2.1) (V.cons ((V.int .i64) y.2.2) (V.unit))))]
def S_f3 : AR :=
 Aq Tryz.f71 1 0 X_f3 (fun x => [e_TPg x]) fun l => (d_TPg (at_ l 0))
structure X_f3_4 where
 D3 : TPg
def S_f3_4 : AR :=
 Ai Tryz.f71 4 [(1, .any)] [] [] X_f3_4 (fun x => [(DO e_TPg) x.D3]) fun l => ⟨(DP d_TPg) (at_ l 0)⟩
structure X_f3_5 where
 D3 : TPg
 MX : (Sl TRg)
 ER : Int
 Fc : Int
def S_f3_5 : AR :=
 Ai Tryz.f71 5 [(1, .any), (29, hsl_TRg), (30, .any), (31, .any)] [] [] X_f3_5 (fun x => [(DO e_TPg) x.D3, esl_TRg x.MX, (V.int .i64) x.ER, (V.int .i64) x.Fc]) fun l => ⟨(DP d_TPg) (at_ l 0), dsl_TRg (at_ l 1), dI (at_ l 2), dI (at_ l 3)⟩
structure X_f3_10 where
 D3 : TPg
def S_f3_10 : AR :=
 Ai Tryz.f71 10 [(1, .any)] [] [] X_f3_10 (fun x => [(DO e_TPg) x.D3]) fun l => ⟨(DP d_TPg) (at_ l 0)⟩
structure X_f3_11 where
 D3 : TPg
 Ht : (Sl (Sl TIn))
 LN : Int
 Gr : Int
def S_f3_11 : AR :=
 Ai Tryz.f71 11 [(1, .any), (42, hsl_sl_TIn), (43, .any), (44, .any)] [] [] X_f3_11 (fun x => [(DO e_TPg) x.D3, esl_sl_TIn x.Ht, (V.int .i64) x.LN, (V.int .i64) x.Gr]) fun l => ⟨(DP d_TPg) (at_ l 0), dsl_sl_TIn (at_ l 1), dI (at_ l 2), dI (at_ l 3)⟩
structure X_f3_16 where
 D3 : TPg
 t_8 : Int
 l_9 : (Sl TIn)
 Ht : (Sl (Sl TIn))
 LN : Int
 Gr : Int
 TS : (Sl TIn)
 UU : Int
 Qe : Int
def S_f3_16 : AR :=
 Ai Tryz.f71 16 [(1, .any), (8, .any), (9, hsl_TIn), (42, hsl_sl_TIn), (43, .any), (44, .any), (53, hsl_TIn), (54, .any), (55, .any)] [] [] X_f3_16 (fun x => [(DO e_TPg) x.D3, (V.int .i64) x.t_8, esl_TIn x.l_9, esl_sl_TIn x.Ht, (V.int .i64) x.LN, (V.int .i64) x.Gr, esl_TIn x.TS, (V.int .i64) x.UU, (V.int .i64) x.Qe]) fun l => ⟨(DP d_TPg) (at_ l 0), dI (at_ l 1), dsl_TIn (at_ l 2), dsl_sl_TIn (at_ l 3), dI (at_ l 4), dI (at_ l 5), dsl_TIn (at_ l 6), dI (at_ l 7), dI (at_ l 8)⟩
structure X_f3_22 where
 D3 : TPg
 Ht : (Sl (Sl TIn))
 LN : Int
 Gr : Int
def S_f3_22 : AR :=
 Ai Tryz.f71 22 [(1, .any), (42, hsl_sl_TIn), (43, .any), (44, .any)] [] [] X_f3_22 (fun x => [(DO e_TPg) x.D3, esl_sl_TIn x.Ht, (V.int .i64) x.LN, (V.int .i64) x.Gr]) fun l => ⟨(DP d_TPg) (at_ l 0), dsl_sl_TIn (at_ l 1), dI (at_ l 2), dI (at_ l 3)⟩
def tt_f3_22 (D_f3_11 : AS X_f3_11 R_f3) (x : X_f3_22) : TT Tryz.prog R_f3 :=
 (.Ab S_f3_11 D_f3_11 (X_f3_11.mk x.D3 x.Ht x.LN (IntKind.i64.wrap (x.Gr + 1))))
theorem sd_f3_22 (D_f3_11 : AS X_f3_11 R_f3) (x : X_f3_22) : (tt_f3_22 D_f3_11 x).AJ :=
 TT.sJ
def D_f3_22 (D_f3_11 : AS X_f3_11 R_f3) : AS X_f3_22 R_f3 := .of (tt_f3_22 D_f3_11)
theorem ok_f3_22 (D_f3_11 : AS X_f3_11 R_f3) (h_11 : AX J_f3 S_f3_11 D_f3_11) : AX J_f3 S_f3_22 (D_f3_22 D_f3_11) :=
 lk mxk (lbc h_11 rfl lbn) (sd_f3_22 D_f3_11)
def tt_f3_16 (D_f3_11 : AS X_f3_11 R_f3) (D_f3_16 : AS X_f3_16 R_f3) (x : X_f3_16) : TT Tryz.prog R_f3 :=
 (.ite (B8 x.Qe x.UU)
 (.need (BQ x.Qe x.TS.n) <|
 (.call con_f2z (x.D3, ((x.TS.get (Int.toNat x.Qe)), ((x.l_9.n : Nat) : Int))) fun (y3 : R_f2z) =>
 (.ite (!(Ae y3 0))
 (.ret (x.t_8, (x.Qe, y3)))
 (.Ab S_f3_16 D_f3_16 (X_f3_16.mk x.D3 x.t_8 x.l_9 x.Ht x.LN x.Gr x.TS x.UU (IntKind.i64.wrap (x.Qe + 1)))))))
 (.Ab S_f3_22 (D_f3_22 D_f3_11) (X_f3_22.mk x.D3 x.Ht x.LN x.Gr)))
theorem sd_f3_16 (D_f3_11 : AS X_f3_11 R_f3) (D_f3_16 : AS X_f3_16 R_f3) (x : X_f3_16) : (tt_f3_16 D_f3_11 D_f3_16 x).AJ :=
 (TT.sI (TT.sN (TT.sC fun _ => (TT.sI TT.sR TT.sJ))) TT.sJ)
def D_f3_16 (D_f3_11 : AS X_f3_11 R_f3) : AS X_f3_16 R_f3 := AS.loop (tt_f3_16 D_f3_11)
theorem ok_f3_16 (D_f3_11 : AS X_f3_11 R_f3) (h_11 : AX J_f3 S_f3_11 D_f3_11) : AX J_f3 S_f3_16 (D_f3_16 D_f3_11) :=
 BG fun D_f3_16 h_16 => lk mxk (lbc h_11 rfl (lbc h_16 rfl (lbc (ok_f3_22 D_f3_11 h_11) rfl lbn))) (sd_f3_16 D_f3_11 D_f3_16)
def tt_f3_11 (D_f3_11 : AS X_f3_11 R_f3) (x : X_f3_11) : TT Tryz.prog R_f3 :=
 (.ite (B8 x.Gr x.LN)
 (.need (BQ x.Gr x.Ht.n) <|
 (.ite (B8 256 (((x.Ht.get (Int.toNat x.Gr)).n : Nat) : Int))
 (.ret (x.Gr, (256, 4)))
 (.Ab S_f3_16 (D_f3_16 D_f3_11) (X_f3_16.mk x.D3 x.Gr (x.Ht.get (Int.toNat x.Gr)) x.Ht x.LN x.Gr (x.Ht.get (Int.toNat x.Gr)) (((x.Ht.get (Int.toNat x.Gr)).n : Nat) : Int) 0))))
 (.ret (0, (0, 0))))
theorem sd_f3_11 (D_f3_11 : AS X_f3_11 R_f3) (x : X_f3_11) : (tt_f3_11 D_f3_11 x).AJ :=
 (TT.sI (TT.sN (TT.sI TT.sR TT.sJ)) TT.sR)
def D_f3_11 : AS X_f3_11 R_f3 := AS.loop tt_f3_11
theorem ok_f3_11 : AX J_f3 S_f3_11 D_f3_11 :=
 BG fun D_f3_11 h_11 => lk mxk (lbc h_11 rfl (lbc (ok_f3_22 D_f3_11 h_11) rfl (lbc (ok_f3_16 D_f3_11 h_11) rfl lbn))) (sd_f3_11 D_f3_11)
def tt_f3_10 (x : X_f3_10) : TT Tryz.prog R_f3 :=
 (.Ab S_f3_11 D_f3_11 (X_f3_11.mk x.D3 x.D3.AB ((x.D3.AB.n : Nat) : Int) 0))
theorem sd_f3_10 (x : X_f3_10) : (tt_f3_10 x).AJ :=
 TT.sJ
def D_f3_10 : AS X_f3_10 R_f3 := .of tt_f3_10
theorem ok_f3_10 : AX J_f3 S_f3_10 D_f3_10 :=
 lk mxk (lbc ok_f3_11 rfl lbn) sd_f3_10
def tt_f3_5 (D_f3_5 : AS X_f3_5 R_f3) (x : X_f3_5) : TT Tryz.prog R_f3 :=
 (.ite (B8 x.Fc x.ER)
 (.need (BQ x.Fc x.MX.n) <|
 (.call con_f1v (x.MX.get (Int.toNat x.Fc)) fun (y2 : R_f1v) =>
 (.ite (!y2)
 (.ret ((-(1 : Int)), (x.Fc, 7)))
 (.Ab S_f3_5 D_f3_5 (X_f3_5.mk x.D3 x.MX x.ER (IntKind.i64.wrap (x.Fc + 1)))))))
 (.Ab S_f3_10 D_f3_10 (X_f3_10.mk x.D3)))
theorem sd_f3_5 (D_f3_5 : AS X_f3_5 R_f3) (x : X_f3_5) : (tt_f3_5 D_f3_5 x).AJ :=
 (TT.sI (TT.sN (TT.sC fun _ => (TT.sI TT.sR TT.sJ))) TT.sJ)
def D_f3_5 : AS X_f3_5 R_f3 := AS.loop tt_f3_5
theorem ok_f3_5 : AX J_f3 S_f3_5 D_f3_5 :=
 BG fun D_f3_5 h_5 => lk mxk (lbc h_5 rfl (lbc ok_f3_11 rfl (lbc ok_f3_10 rfl lbn))) (sd_f3_5 D_f3_5)
def tt_f3_4 (x : X_f3_4) : TT Tryz.prog R_f3 :=
 (.Ab S_f3_5 D_f3_5 (X_f3_5.mk x.D3 x.D3.AF ((x.D3.AF.n : Nat) : Int) 0))
theorem sd_f3_4 (x : X_f3_4) : (tt_f3_4 x).AJ :=
 TT.sJ
def D_f3_4 : AS X_f3_4 R_f3 := .of tt_f3_4
theorem ok_f3_4 : AX J_f3 S_f3_4 D_f3_4 :=
 lk mxk (lbc ok_f3_11 rfl (lbc ok_f3_10 rfl (lbc ok_f3_5 rfl lbn))) sd_f3_4
def tt_f3 (x : X_f3) : TT Tryz.prog R_f3 :=
 (.ite (Ae ((x.AB.n : Nat) : Int) 0)
 (.ret (0, (0, 1)))
 (.ite (B8 8 ((x.AB.n : Nat) : Int))
 (.ret (0, (0, 1)))
 (.ite (B8 8 ((x.AF.n : Nat) : Int))
 (.ret (0, (0, 1)))
 (.Ab S_f3_4 D_f3_4 (X_f3_4.mk x)))))
theorem sd_f3 (x : X_f3) : (tt_f3 x).AJ :=
 (TT.sI TT.sR (TT.sI TT.sR (TT.sI TT.sR TT.sJ)))
def D_f3 : AS X_f3 R_f3 := .of tt_f3
def con_f3 : BN Tryz.prog :=
 CY 71 J_f3 S_f3 D_f3 1 0 [sh_TPg] (lk mxk (lbc ok_f3_11 rfl (lbc ok_f3_10 rfl (lbc ok_f3_5 rfl (lbc ok_f3_4 rfl lbn)))) sd_f3)
abbrev X_f2p : Type := TPg
abbrev R_f2p : Type := Bool
def J_f2p : BT Tryz.prog :=
 Bg Tryz.prog Tryz.f37 14 [(1, 3), (6, 1)] [] [] [] [.any] [] [con_f3] R_f2p [] fun y => [V.bool y]
def S_f2p : AR :=
 Aq Tryz.f37 1 0 X_f2p (fun x => [e_TPg x]) fun l => (d_TPg (at_ l 0))
def tt_f2p (x : X_f2p) : TT Tryz.prog R_f2p :=
 (.call con_f3 x fun (y1 : R_f3) =>
 (.ret (Ae y1.snd.snd 0)))
theorem sd_f2p (x : X_f2p) : (tt_f2p x).AJ :=
 (TT.sC fun _ => TT.sR)
def D_f2p : AS X_f2p R_f2p := .of tt_f2p
def con_f2p : BN Tryz.prog :=
 CY 37 J_f2p S_f2p D_f2p 1 0 [sh_TPg] (lk mxk lbn sd_f2p)
abbrev X_f1s : Type := (Sl TRg)
abbrev R_f1s : Type := (Sl TRg)
def J_f1s : BT Tryz.prog :=
 Bg Tryz.prog Tryz.f72 8 [(6, 1)] [] [] [.Eg 2] [hsl_TRg] [] [] R_f1s [] fun y => [esl_TRg y]
def S_f1s : AR :=
 Aq Tryz.f72 1 0 X_f1s (fun x => [esl_TRg x]) fun l => (dsl_TRg (at_ l 0))
def tt_f1s (x : X_f1s) : TT Tryz.prog R_f1s :=
 (.ite x.nil
 (.ret (Sl.mk true 0 (fun _i1 => (TRg.mk 0 0 0))))
 (.need (true && (room ((0 : Nat) + x.n) 24)) <|
 (.ret (Sl.mk (cond (Nat.beq x.n 0) false false) ((0 : Nat) + x.n) (fun i1 => (TRg.mk (cond (Nat.blt i1 0) (0 : Int) (x.get (i1 - 0)).Kind) (cond (Nat.blt i1 0) (0 : Int) (x.get (i1 - 0)).Ee) (cond (Nat.blt i1 0) (0 : Int) (x.get (i1 - 0)).Aa)))))))
theorem sd_f1s (x : X_f1s) : (tt_f1s x).AJ :=
 (TT.sI TT.sR (TT.sN TT.sR))
def D_f1s : AS X_f1s R_f1s := .of tt_f1s
def con_f1s : BN Tryz.prog :=
 CY 72 J_f1s S_f1s D_f1s 1 0 [hsl_TRg] (lk mxk lbn sd_f1s)
abbrev X_f1l : Type := (Sl TIn)
abbrev R_f1l : Type := (Sl TIn)
def J_f1l : BT Tryz.prog :=
 Bg Tryz.prog Tryz.f73 8 [(6, 1)] [] [] [.Eg 2] [hsl_TIn] [] [] R_f1l [] fun y => [esl_TIn y]
def S_f1l : AR :=
 Aq Tryz.f73 1 0 X_f1l (fun x => [esl_TIn x]) fun l => (dsl_TIn (at_ l 0))
def tt_f1l (x : X_f1l) : TT Tryz.prog R_f1l :=
 (.ite x.nil
 (.ret (Sl.mk true 0 (fun _i1 => (TIn.mk 0 0 0 0 0 0))))
 (.need (true && (room ((0 : Nat) + x.n) 48)) <|
 (.ret (Sl.mk (cond (Nat.beq x.n 0) false false) ((0 : Nat) + x.n) (fun i1 => (TIn.mk (cond (Nat.blt i1 0) (0 : Int) (x.get (i1 - 0)).Op) (cond (Nat.blt i1 0) (0 : Int) (x.get (i1 - 0)).A) (cond (Nat.blt i1 0) (0 : Int) (x.get (i1 - 0)).B) (cond (Nat.blt i1 0) (0 : Int) (x.get (i1 - 0)).C) (cond (Nat.blt i1 0) (0 : Int) (x.get (i1 - 0)).D) (cond (Nat.blt i1 0) (0 : Int) (x.get (i1 - 0)).K)))))))
theorem sd_f1l (x : X_f1l) : (tt_f1l x).AJ :=
 (TT.sI TT.sR (TT.sN TT.sR))
def D_f1l : AS X_f1l R_f1l := .of tt_f1l
def con_f1l : BN Tryz.prog :=
 CY 73 J_f1l S_f1l D_f1l 1 0 [hsl_TIn] (lk mxk lbn sd_f1l)
abbrev DslA_sl_TIn : Type := (Sl (Sl TIn))
def eslA_sl_TIn : DslA_sl_TIn → V := (Lu (some 116) 1 esl_TIn)
def dslA_sl_TIn : V → DslA_sl_TIn := (LU dsl_TIn)
def hslA_sl_TIn : Sh := (.sl (some 116) 1 (esl_TIn (dsl_TIn .undef)))
def e_TPg_1 (x : TPg) : V :=
 V.cons (esl_TRg x.AF) (V.cons (eslA_sl_TIn x.AB) (V.unit))
theorem nu_e_TPg_1 (x : TPg) : (e_TPg_1 x).Cd := ⟨trivial, trivial, trivial⟩
def sh_TPg_1 : Sh := (.cons hsl_TRg (.cons hslA_sl_TIn .any))
abbrev X_fu : Type := TPg
abbrev R_fu : Type := TPg
def J_fu : BT Tryz.prog :=
 Bg Tryz.prog Tryz.f38 26 [(1, 3), (18, 1), (19, 1)] [] [] [] [sh_TPg] [] [con_f1l, con_f1s] R_fu [] fun y => [e_TPg y]
def S_fu : AR :=
 Aq Tryz.f38 1 0 X_fu (fun x => [e_TPg x]) fun l => (d_TPg (at_ l 0))
structure X_fu_3 where
 R6 : (Sl (Sl TIn))
 TW : Int
 O3 : Int
 CO : TPg
 Dh : TPg
def S_fu_3 : AR :=
 Ai Tryz.f38 3 [(2, .any), (3, .any), (11, hsl_sl_TIn), (12, .any), (13, .any)] [] [(.loc 2 0, sh_TPg), (.loc 3 0, sh_TPg_1)] X_fu_3 (fun x => [(V.ptr (.loc 2 0) []), (V.ptr (.loc 3 0) []), esl_sl_TIn x.R6, (V.int .i64) x.TW, (V.int .i64) x.O3, e_TPg x.CO, e_TPg_1 x.Dh]) fun l => ⟨dsl_sl_TIn (at_ l 2), dI (at_ l 3), dI (at_ l 4), d_TPg (at_ l 5), d_TPg (at_ l 6)⟩
def tt_fu_3 (D_fu_3 : AS X_fu_3 R_fu) (x : X_fu_3) : TT Tryz.prog R_fu :=
 (.ite (B8 x.O3 x.TW)
 (.need (BQ x.O3 x.R6.n) <|
 (.call con_f1l (x.R6.get (Int.toNat x.O3)) fun (y2 : R_f1l) =>
 (.need (true && (room (x.Dh.AB.n + 1) 24)) <|
 (.Ab S_fu_3 D_fu_3 (X_fu_3.mk x.R6 x.TW (IntKind.i64.wrap (x.O3 + 1)) x.CO (TPg.mk x.Dh.AF (Sl.mk (cond (Nat.beq 1 0) x.Dh.AB.nil false) (x.Dh.AB.n + 1) (fun i3 => (Sl.mk (cond (Nat.blt i3 x.Dh.AB.n) (x.Dh.AB.get i3).nil y2.nil) (cond (Nat.blt i3 x.Dh.AB.n) (x.Dh.AB.get i3).n y2.n) (fun i4 => (TIn.mk (cond (Nat.blt i3 x.Dh.AB.n) ((x.Dh.AB.get i3).get i4).Op (y2.get i4).Op) (cond (Nat.blt i3 x.Dh.AB.n) ((x.Dh.AB.get i3).get i4).A (y2.get i4).A) (cond (Nat.blt i3 x.Dh.AB.n) ((x.Dh.AB.get i3).get i4).B (y2.get i4).B) (cond (Nat.blt i3 x.Dh.AB.n) ((x.Dh.AB.get i3).get i4).C (y2.get i4).C) (cond (Nat.blt i3 x.Dh.AB.n) ((x.Dh.AB.get i3).get i4).D (y2.get i4).D) (cond (Nat.blt i3 x.Dh.AB.n) ((x.Dh.AB.get i3).get i4).K (y2.get i4).K))))))))))))
 (.ret x.Dh))
theorem sd_fu_3 (D_fu_3 : AS X_fu_3 R_fu) (x : X_fu_3) : (tt_fu_3 D_fu_3 x).AJ :=
 (TT.sI (TT.sN (TT.sC fun _ => (TT.sN TT.sJ))) TT.sR)
def D_fu_3 : AS X_fu_3 R_fu := AS.loop tt_fu_3
theorem ok_fu_3 : AX J_fu S_fu_3 D_fu_3 :=
 BG fun D_fu_3 h_3 => lk mxk (lbc h_3 rfl lbn) (sd_fu_3 D_fu_3)
def tt_fu (x : X_fu) : TT Tryz.prog R_fu :=
 (.call con_f1s x.AF fun (y1 : R_f1s) =>
 (.Ab S_fu_3 D_fu_3 (X_fu_3.mk x.AB ((x.AB.n : Nat) : Int) 0 (TPg.mk (Sl.mk true 0 (fun _i2 => (TRg.mk 0 0 0))) (Sl.mk true 0 (fun _i2 => (Sl.mk true 0 (fun _i3 => (TIn.mk 0 0 0 0 0 0)))))) (TPg.mk y1 (Sl.mk true 0 (fun _i2 => (Sl.mk true 0 (fun _i3 => (TIn.mk 0 0 0 0 0 0)))))))))
theorem sd_fu (x : X_fu) : (tt_fu x).AJ :=
 (TT.sC fun _ => TT.sJ)
def D_fu : AS X_fu R_fu := .of tt_fu
def con_fu : BN Tryz.prog :=
 CY 38 J_fu S_fu D_fu 1 0 [sh_TPg] (lk mxk (lbc ok_fu_3 rfl lbn) sd_fu)
abbrev X_f33 : Type := Int × Int
abbrev R_f33 : Type := Bool
def J_f33 : BT Tryz.prog :=
 Bg Tryz.prog Tryz.f131 19 [] [] [] [] [.any] [] [] R_f33 [] fun y => [V.bool y]
def S_f33 : AR :=
 Aq Tryz.f131 2 0 X_f33 (fun x => [(V.int .i64) x.1, (V.int .i64) x.2]) fun l => (dI (at_ l 0), dI (at_ l 1))
def tt_f33 (x : X_f33) : TT Tryz.prog R_f33 :=
 (.ite (B6 1 x.fst)
 (.ite (B6 x.fst 64)
 (.ite (B6 1 x.snd)
 (.ret (B6 x.snd 8))
 (.ret false))
 (.ret false))
 (.ret false))
theorem sd_f33 (x : X_f33) : (tt_f33 x).AJ :=
 (TT.sI (TT.sI (TT.sI TT.sR TT.sR) TT.sR) TT.sR)
def D_f33 : AS X_f33 R_f33 := .of tt_f33
def con_f33 : BN Tryz.prog :=
 CY 131 J_f33 S_f33 D_f33 2 0 [.any, .any] (lk mxk lbn sd_f33)
abbrev X_f2a : Type := Int
abbrev R_f2a : Type := Int
def J_f2a : BT Tryz.prog :=
 Bg Tryz.prog Tryz.f132 5 [] [] [] [] [.any] [] [] R_f2a [] fun y => [(V.int .u64) y]
def S_f2a : AR :=
 Aq Tryz.f132 1 0 X_f2a (fun x => [(V.int .u64) x]) fun l => (dI (at_ l 0))
def tt_f2a (x : X_f2a) : TT Tryz.prog R_f2a :=
 (.ret (IntKind.u64.wrap ((2 : Int) * x)))
theorem sd_f2a (x : X_f2a) : (tt_f2a x).AJ :=
 TT.sR
def D_f2a : AS X_f2a R_f2a := .of tt_f2a
def con_f2a : BN Tryz.prog :=
 CY 132 J_f2a S_f2a D_f2a 1 0 [.any] (lk mxk lbn sd_f2a)
def d_TSo (v : V) : TSo :=
 ⟨dI (fd v 0), dI (fd v 1), dI (fd v 2)⟩
def e_TSo (x : TSo) : V :=
 V.cons ((V.int .u64) x.AQ) (V.cons ((V.int .u64) x.Value) (V.cons ((V.int .i64) x.Left) (V.unit)))
theorem nu_e_TSo (x : TSo) : (e_TSo x).Cd := ⟨trivial, trivial, trivial, trivial⟩
abbrev Dsl_TSo : Type := (Sl TSo)
def esl_TSo : Dsl_TSo → V := (Lu none 3 e_TSo)
def dsl_TSo : V → Dsl_TSo := (LU d_TSo)
def hsl_TSo : Sh := (.sl none 3 (e_TSo (d_TSo .undef)))
abbrev Dosl_TSo : Type := (Sl TSo)
def eosl_TSo : Dosl_TSo → V := (T0 175 3 e_TSo)
def dosl_TSo : V → Dosl_TSo := (LU d_TSo)
def hosl_TSo : Sh := (.A0 175 3 (e_TSo (d_TSo .undef)))
structure TSs where
 l : (Sl TSo)
 AO : Int
def d_TSs (v : V) : TSs :=
 ⟨dosl_TSo (fd v 0), dI (fd v 1)⟩
def e_TSs (x : TSs) : V :=
 V.cons (eosl_TSo x.l) (V.cons ((V.int .i64) x.AO) (V.unit))
theorem nu_e_TSs (x : TSs) : (e_TSs x).Cd := ⟨(fun _ _ => (nu_e_TSo) _ : ∀ y, (eosl_TSo y).Cd) x.l, trivial, trivial⟩
def sh_TSs : Sh := (.cons hosl_TSo .any)
abbrev Dbox_TSs : Type := (Bx TSs)
def ebox_TSs : Dbox_TSs → V := (eBx e_TSs)
def dbox_TSs : V → Dbox_TSs := (dBx d_TSs)
def hbox_TSs : Sh := (.box (e_TSs (d_TSs .undef)))
abbrev X_f1k : Type := Int × Int
abbrev R_f1k : Type := (Bx TSs) × Int
def J_f1k : BT Tryz.prog :=
 Bg Tryz.prog Tryz.f74 37 [(13, 1)] [(5, [.close (.loc 28 0), .close (.loc 20 0)]), (6, [.close (.loc 28 0), .close (.loc 20 0)]), (7, [.close (.loc 28 0), .close (.loc 20 0)]), (8, [.close (.loc 28 0), .close (.loc 20 0)]), (9, [.close (.loc 28 0), .close (.loc 20 0)])] [(7, [.HR (.loc 16 0) [.Bk 0 0] 28])] [.close (.loc 28 0), .close (.loc 20 0), .Eg 4] [hbox_TSs, .any] [] [con_f2a, con_f33] R_f1k [(0, [⟨.loc 28 0, .loc 16 0, [.Bk 0 0], none, none⟩]), (5, [⟨.loc 28 0, .loc 16 0, [.Bk 0 0], none, none⟩])] fun y => [V.CR (V.cons (ebox_TSs y.1) (V.cons ((V.int .i64) y.2) (V.unit)))]
def S_f1k : AR :=
 Aq Tryz.f74 2 0 X_f1k (fun x => [(V.int .i64) x.1, (V.int .i64) x.2]) fun l => (dI (at_ l 0), dI (at_ l 1))
structure X_f1k_5 where
 LO : Int
 Gs : Int
 GO : TSs
def S_f1k_5 : AR :=
 Ai Tryz.f74 5 (an [6, 21, 22]) [] [(.loc 16 0, sh_TSs)] X_f1k_5 (fun x => [(V.ptr (.loc 16 0) []), (V.int .i64) x.LO, (V.int .i64) x.Gs, e_TSs x.GO]) fun l => ⟨dI (at_ l 1), dI (at_ l 2), d_TSs (at_ l 3)⟩
def tt_f1k_5 (D_f1k_5 : AS X_f1k_5 R_f1k) (x : X_f1k_5) : TT Tryz.prog R_f1k :=
 (.ite (B8 x.Gs x.LO)
 (.call con_f2a (IntKind.u64.wrap x.Gs) fun (y2 : R_f2a) =>
 (.need (BQ x.Gs x.GO.l.n) <|
 (.need ((Nat.beq x.GO.l.n x.GO.l.n) && true) <|
 (.need ((true && true) && (Nat.beq x.GO.l.n x.GO.l.n)) <|
 (.Ab S_f1k_5 D_f1k_5 (X_f1k_5.mk x.LO (IntKind.i64.wrap (x.Gs + 1)) (TSs.mk (Sl.mk x.GO.l.nil x.GO.l.n (fun i3 => (TSo.mk (cond (Nat.beq i3 ((0 : Nat) + (Int.toNat x.Gs))) y2 (x.GO.l.get i3).AQ) (cond (Nat.beq i3 ((0 : Nat) + (Int.toNat x.Gs))) (x.GO.l.get ((0 : Nat) + (Int.toNat x.Gs))).Value (x.GO.l.get i3).Value) (cond (Nat.beq i3 ((0 : Nat) + (Int.toNat x.Gs))) (x.GO.l.get ((0 : Nat) + (Int.toNat x.Gs))).Left (x.GO.l.get i3).Left)))) x.GO.AO)))))))
 (.ret ((Bx.mk false x.GO), 0)))
theorem sd_f1k_5 (D_f1k_5 : AS X_f1k_5 R_f1k) (x : X_f1k_5) : (tt_f1k_5 D_f1k_5 x).AJ :=
 (TT.sI (TT.sC fun _ => (TT.sN (TT.sN (TT.sN TT.sJ)))) TT.sR)
def D_f1k_5 : AS X_f1k_5 R_f1k := AS.loop tt_f1k_5
theorem ok_f1k_5 : AX J_f1k S_f1k_5 D_f1k_5 :=
 BG fun D_f1k_5 h_5 => lk mxk (lbc h_5 rfl lbn) (sd_f1k_5 D_f1k_5)
def tt_f1k (x : X_f1k) : TT Tryz.prog R_f1k :=
 (.call con_f33 x fun (y1 : R_f33) =>
 (.ite (!y1)
 (.ret ((Bx.mk true (TSs.mk (Sl.mk true 0 (fun _i2 => (TSo.mk 0 0 0))) 0)), 1))
 (.need ((((upto x.fst (Int.toNat x.fst)) && (B6 0 x.fst)) && (room (Int.toNat x.fst) 24)) && (decide ((x.fst ≤ (9223372036854775807 : Int))))) <|
 (.need ((true && true) && (Nat.beq (Int.toNat x.fst) (Int.toNat x.fst))) <|
 (.Ab S_f1k_5 D_f1k_5 (X_f1k_5.mk (((Int.toNat x.fst) : Nat) : Int) 0 (TSs.mk (Sl.mk false (Int.toNat x.fst) (fun _i2 => (TSo.mk 0 0 0))) x.snd)))))))
theorem sd_f1k (x : X_f1k) : (tt_f1k x).AJ :=
 (TT.sC fun _ => (TT.sI TT.sR (TT.sN (TT.sN TT.sJ))))
def D_f1k : AS X_f1k R_f1k := .of tt_f1k
def con_f1k : BN Tryz.prog :=
 CY 74 J_f1k S_f1k D_f1k 2 0 [.any, .any] (lk mxk (lbc ok_f1k_5 rfl lbn) sd_f1k)
abbrev X_f3a : Type := TRg
abbrev R_f3a : Type := Bool
def J_f3a : BT Tryz.prog :=
 Bg Tryz.prog Tryz.f75 12 [(1, 3)] [] [] [] [.any] [] [] R_f3a [] fun y => [V.bool y]
def S_f3a : AR :=
 Aq Tryz.f75 1 0 X_f3a (fun x => [e_TRg x]) fun l => (d_TRg (at_ l 0))
def tt_f3a (x : X_f3a) : TT Tryz.prog R_f3a :=
 (.ite (Ae x.Kind 1)
 (.ret (Ae x.Aa 1))
 (.ite (Ae x.Kind 2)
 (.ret true)
 (.ret false)))
theorem sd_f3a (x : X_f3a) : (tt_f3a x).AJ :=
 (TT.sI TT.sR (TT.sI TT.sR TT.sR))
def D_f3a : AS X_f3a R_f3a := .of tt_f3a
def con_f3a : BN Tryz.prog :=
 CY 75 J_f3a S_f3a D_f3a 1 0 [.any] (lk mxk lbn sd_f3a)
abbrev OY : Type := (Sl Int)
def Kr : OY → V := (T0 36 1 (V.int .u64))
def Ss : V → OY := (LU dI)
def N6 : Sh := (.A0 36 1 (V.int .u64 0))
structure TRc where
 tail : Int
 AD : (Sl Int)
def d_TRc (v : V) : TRc :=
 ⟨dI (fd v 0), Ss (fd v 1)⟩
def e_TRc (x : TRc) : V :=
 V.cons ((V.int .u64) x.tail) (V.cons (Kr x.AD) (V.unit))
theorem nu_e_TRc (x : TRc) : (e_TRc x).Cd := ⟨trivial, (fun _ _ => trivial : ∀ y, (Kr y).Cd) x.AD, trivial⟩
def sh_TRc : Sh := (.cons .any (.cons N6 .any))
structure TRr where
 AA : TRc
 s : (Bx TSs)
 most : Int
 closed : Bool
def d_TRr (v : V) : TRr :=
 ⟨d_TRc (fd v 0), dbox_TSs (fd v 1), dI (fd v 2), dB (fd v 3)⟩
def e_TRr (x : TRr) : V :=
 V.cons (e_TRc x.AA) (V.cons (ebox_TSs x.s) (V.cons ((V.int .u64) x.most) (V.cons (V.bool x.closed) (V.unit))))
theorem nu_e_TRr (x : TRr) : (e_TRr x).Cd := ⟨(nu_e_TRc : ∀ y, (e_TRc y).Cd) x.AA, (fun _ => (nu_e_TSs) _ : ∀ y, (ebox_TSs y).Cd) x.s, trivial, trivial, trivial⟩
def sh_TRr : Sh := (.cons sh_TRc (.cons hbox_TSs .any))
abbrev Dbox_TRr : Type := (Bx TRr)
def ebox_TRr : Dbox_TRr → V := (eBx e_TRr)
def dbox_TRr : V → Dbox_TRr := (dBx d_TRr)
def hbox_TRr : Sh := (.box (e_TRr (d_TRr .undef)))
abbrev X_f29 : Type := TRg
abbrev R_f29 : Type := (Bx TRr) × Int
def J_f29 : BT Tryz.prog :=
 Bg Tryz.prog Tryz.f39 31 [(1, 3), (6, 1), (23, 1), (25, 1)] [] [] [.Eg 2] [hbox_TRr, .any] [] [con_f3a, con_f1k] R_f29 [] fun y => [V.CR (V.cons (ebox_TRr y.1) (V.cons ((V.int .i64) y.2) (V.unit)))]
def S_f29 : AR :=
 Aq Tryz.f39 1 0 X_f29 (fun x => [e_TRg x]) fun l => (d_TRg (at_ l 0))
structure X_f29_4 where
 NA : TRg
 s_4 : (Bx TSs)
def S_f29_4 : AR :=
 Ai Tryz.f39 4 [(1, .any), (4, hbox_TSs)] [] [] X_f29_4 (fun x => [(DO e_TRg) x.NA, ebox_TSs x.s_4]) fun l => ⟨(DP d_TRg) (at_ l 0), dbox_TSs (at_ l 1)⟩
def tt_f29_4 (x : X_f29_4) : TT Tryz.prog R_f29 :=
 (.need ((((upto x.NA.Aa (Int.toNat x.NA.Aa)) && (B6 0 x.NA.Aa)) && (room (Int.toNat x.NA.Aa) 8)) && (decide ((x.NA.Aa ≤ (9223372036854775807 : Int))))) <|
 (.ret ((Bx.mk false (TRr.mk (TRc.mk 0 (Sl.mk false (Int.toNat x.NA.Aa) (fun _i1 => (0 : Int)))) x.s_4 (IntKind.u64.wrap x.NA.Ee) false)), 0)))
theorem sd_f29_4 (x : X_f29_4) : (tt_f29_4 x).AJ :=
 (TT.sN TT.sR)
def D_f29_4 : AS X_f29_4 R_f29 := .of tt_f29_4
theorem ok_f29_4 : AX J_f29 S_f29_4 D_f29_4 :=
 lk mxk lbn sd_f29_4
def tt_f29 (x : X_f29) : TT Tryz.prog R_f29 :=
 (.call con_f1k (x.Ee, x.Aa) fun (y1 : R_f1k) =>
 (.ite (!(Ae y1.snd 0))
 (.ret ((Bx.mk true (TRr.mk (TRc.mk 0 (Sl.mk true 0 (fun _i2 => (0 : Int)))) (Bx.mk true (TSs.mk (Sl.mk true 0 (fun _i2 => (TSo.mk 0 0 0))) 0)) 0 false)), 1))
 (.call con_f3a x fun (y2 : R_f3a) =>
 (.ite (!y2)
 (.ret ((Bx.mk true (TRr.mk (TRc.mk 0 (Sl.mk true 0 (fun _i3 => (0 : Int)))) (Bx.mk true (TSs.mk (Sl.mk true 0 (fun _i3 => (TSo.mk 0 0 0))) 0)) 0 false)), 1))
 (.Ab S_f29_4 D_f29_4 (X_f29_4.mk x y1.fst))))))
theorem sd_f29 (x : X_f29) : (tt_f29 x).AJ :=
 (TT.sC fun _ => (TT.sI TT.sR (TT.sC fun _ => (TT.sI TT.sR TT.sJ))))
def D_f29 : AS X_f29 R_f29 := .of tt_f29
def con_f29 : BN Tryz.prog :=
 CY 39 J_f29 S_f29 D_f29 1 0 [.any] (lk mxk (lbc ok_f29_4 rfl lbn) sd_f29)
abbrev Dsl_box_TRr : Type := (Sl (Bx TRr))
def esl_box_TRr : Dsl_box_TRr → V := (Lu none 1 ebox_TRr)
def dsl_box_TRr : V → Dsl_box_TRr := (LU dbox_TRr)
def hsl_box_TRr : Sh := (.sl none 1 (ebox_TRr (dbox_TRr .undef)))
abbrev QK : Type := (Sl Int)
def BL : QK → V := (Lu none 1 (V.int .u64))
def Bi : V → QK := (LU dI)
def BU : Sh := (.sl none 1 (V.int .u64 0))
structure TTh where
 At : Int
 Phase : Int
 Ring : Int
 Status : Int
 AG : Int
 Ao : (Nat → Int)
 Seen : (Sl Int)
def d_TTh (v : V) : TTh :=
 ⟨dI (fd v 0), dI (fd v 1), dI (fd v 2), dI (fd v 3), dI (fd v 4), (T2 dI) (fd v 5), Bi (fd v 6)⟩
def e_TTh (x : TTh) : V :=
 V.cons ((V.int .i64) x.At) (V.cons ((V.int .i64) x.Phase) (V.cons ((V.int .i64) x.Ring) (V.cons ((V.int .i64) x.Status) (V.cons ((V.int .u64) x.AG) (V.cons ((Hf 1 8 (V.int .u64)) x.Ao) (V.cons (BL x.Seen) (V.unit)))))))
theorem nu_e_TTh (x : TTh) : (e_TTh x).Cd := ⟨trivial, trivial, trivial, trivial, trivial, (fun _ _ => trivial : ∀ y, ((Hf 1 8 (V.int .u64)) y).Cd) x.Ao, trivial, trivial⟩
def sh_TTh : Sh := (.cons .any (.cons .any (.cons .any (.cons .any (.cons .any (.cons .any (.cons BU .any)))))))
abbrev Dosl_TTh : Type := (Sl TTh)
def eosl_TTh : Dosl_TTh → V := (T0 71 14 e_TTh)
def dosl_TTh : V → Dosl_TTh := (LU d_TTh)
def hosl_TTh : Sh := (.A0 71 14 (e_TTh (d_TTh .undef)))
abbrev Dosl_box_TRr : Type := (Sl (Bx TRr))
def eosl_box_TRr : Dosl_box_TRr → V := (T0 88 1 ebox_TRr)
def dosl_box_TRr : V → Dosl_box_TRr := (LU dbox_TRr)
def hosl_box_TRr : Sh := (.A0 88 1 (ebox_TRr (dbox_TRr .undef)))
structure TFa where
 p : TPg
 threads : (Sl TTh)
 rings : (Sl (Bx TRr))
 now : Int
 reads : Int
 ended : Bool
def d_TFa (v : V) : TFa :=
 ⟨d_TPg (fd v 0), dosl_TTh (fd v 1), dosl_box_TRr (fd v 2), dI (fd v 3), dI (fd v 4), dB (fd v 5)⟩
def e_TFa (x : TFa) : V :=
 V.cons (e_TPg x.p) (V.cons (eosl_TTh x.threads) (V.cons (eosl_box_TRr x.rings) (V.cons ((V.int .u64) x.now) (V.cons ((V.int .u64) x.reads) (V.cons (V.bool x.ended) (V.unit))))))
theorem nu_e_TFa (x : TFa) : (e_TFa x).Cd := ⟨(nu_e_TPg : ∀ y, (e_TPg y).Cd) x.p, (fun _ _ => (nu_e_TTh) _ : ∀ y, (eosl_TTh y).Cd) x.threads, (fun _ _ => (fun _ => (nu_e_TRr) _) _ : ∀ y, (eosl_box_TRr y).Cd) x.rings, trivial, trivial, trivial, trivial⟩
def sh_TFa : Sh := (.cons sh_TPg (.cons hosl_TTh (.cons hosl_box_TRr .any)))
abbrev Dbox_TFa : Type := (Bx TFa)
def ebox_TFa : Dbox_TFa → V := (eBx e_TFa)
def dbox_TFa : V → Dbox_TFa := (dBx d_TFa)
def hbox_TFa : Sh := (.box (e_TFa (d_TFa .undef)))
def e_TFa_2 (x : TFa) : V :=
 V.cons (e_TPg x.p) (V.cons (eosl_TTh x.threads) (V.cons (eosl_box_TRr x.rings) (V.cons ((V.int .u64) x.now) (V.cons ((V.int .u64) x.reads) (V.cons (V.bool x.ended) (V.unit))))))
theorem nu_e_TFa_2 (x : TFa) : (e_TFa_2 x).Cd := ⟨(nu_e_TPg : ∀ y, (e_TPg y).Cd) x.p, (fun _ _ => (nu_e_TTh) _ : ∀ y, (eosl_TTh y).Cd) x.threads, (fun _ _ => (fun _ => (nu_e_TRr) _) _ : ∀ y, (eosl_box_TRr y).Cd) x.rings, trivial, trivial, trivial, trivial⟩
def sh_TFa_2 : Sh := (.cons sh_TPg (.cons hosl_TTh (.cons hosl_box_TRr .any)))
abbrev X_f12 : Type := TPg
abbrev R_f12 : Type := (Bx TFa) × Int
def J_f12 : BT Tryz.prog :=
 Bg Tryz.prog Tryz.f13 44 [(1, 3), (17, 1), (27, 1), (36, 1), (37, 1), (38, 1)] [] [] [.Eg 2] [hbox_TFa, .any] [] [con_f2p, con_fu, con_f29] R_f12 [] fun y => [V.CR (V.cons (ebox_TFa y.1) (V.cons ((V.int .i64) y.2) (V.unit)))]
def S_f12 : AR :=
 Aq Tryz.f13 1 0 X_f12 (fun x => [e_TPg x]) fun l => (d_TPg (at_ l 0))
structure X_f12_5 where
 LO : (Sl TRg)
 Gs : Int
 C2 : Int
 CI : TFa
def S_f12_5 : AR :=
 Ai Tryz.f13 5 [(4, .any), (21, hsl_TRg), (22, .any), (23, .any)] [] [(.loc 19 0, sh_TFa_2)] X_f12_5 (fun x => [(V.ptr (.loc 19 0) []), esl_TRg x.LO, (V.int .i64) x.Gs, (V.int .i64) x.C2, e_TFa_2 x.CI]) fun l => ⟨dsl_TRg (at_ l 1), dI (at_ l 2), dI (at_ l 3), d_TFa (at_ l 4)⟩
def tt_f12_5 (D_f12_5 : AS X_f12_5 R_f12) (x : X_f12_5) : TT Tryz.prog R_f12 :=
 (.ite (B8 x.C2 x.Gs)
 (.need (BQ x.C2 x.LO.n) <|
 (.call con_f29 (x.LO.get (Int.toNat x.C2)) fun (y2 : R_f29) =>
 (.need (true && (room (x.CI.rings.n + 1) 8)) <|
 (.Ab S_f12_5 D_f12_5 (X_f12_5.mk x.LO x.Gs (IntKind.i64.wrap (x.C2 + 1)) (TFa.mk x.CI.p x.CI.threads (Sl.mk (cond (Nat.beq 1 0) x.CI.rings.nil false) (x.CI.rings.n + 1) (fun i3 => (Bx.mk (cond (Nat.blt i3 x.CI.rings.n) (x.CI.rings.get i3).nil y2.fst.nil) (TRr.mk (TRc.mk (cond (Nat.blt i3 x.CI.rings.n) (x.CI.rings.get i3).x.AA.tail y2.fst.x.AA.tail) (Sl.mk (cond (Nat.blt i3 x.CI.rings.n) (x.CI.rings.get i3).x.AA.AD.nil y2.fst.x.AA.AD.nil) (cond (Nat.blt i3 x.CI.rings.n) (x.CI.rings.get i3).x.AA.AD.n y2.fst.x.AA.AD.n) (fun i4 => (cond (Nat.blt i3 x.CI.rings.n) ((x.CI.rings.get i3).x.AA.AD.get i4) (y2.fst.x.AA.AD.get i4))))) (Bx.mk (cond (Nat.blt i3 x.CI.rings.n) (x.CI.rings.get i3).x.s.nil y2.fst.x.s.nil) (TSs.mk (Sl.mk (cond (Nat.blt i3 x.CI.rings.n) (x.CI.rings.get i3).x.s.x.l.nil y2.fst.x.s.x.l.nil) (cond (Nat.blt i3 x.CI.rings.n) (x.CI.rings.get i3).x.s.x.l.n y2.fst.x.s.x.l.n) (fun i4 => (TSo.mk (cond (Nat.blt i3 x.CI.rings.n) ((x.CI.rings.get i3).x.s.x.l.get i4).AQ (y2.fst.x.s.x.l.get i4).AQ) (cond (Nat.blt i3 x.CI.rings.n) ((x.CI.rings.get i3).x.s.x.l.get i4).Value (y2.fst.x.s.x.l.get i4).Value) (cond (Nat.blt i3 x.CI.rings.n) ((x.CI.rings.get i3).x.s.x.l.get i4).Left (y2.fst.x.s.x.l.get i4).Left)))) (cond (Nat.blt i3 x.CI.rings.n) (x.CI.rings.get i3).x.s.x.AO y2.fst.x.s.x.AO))) (cond (Nat.blt i3 x.CI.rings.n) (x.CI.rings.get i3).x.most y2.fst.x.most) (cond (Nat.blt i3 x.CI.rings.n) (x.CI.rings.get i3).x.closed y2.fst.x.closed))))) x.CI.now x.CI.reads x.CI.ended))))))
 (.ret ((Bx.mk false x.CI), 0)))
theorem sd_f12_5 (D_f12_5 : AS X_f12_5 R_f12) (x : X_f12_5) : (tt_f12_5 D_f12_5 x).AJ :=
 (TT.sI (TT.sN (TT.sC fun _ => (TT.sN TT.sJ))) TT.sR)
def D_f12_5 : AS X_f12_5 R_f12 := AS.loop tt_f12_5
theorem ok_f12_5 : AX J_f12 S_f12_5 D_f12_5 :=
 BG fun D_f12_5 h_5 => lk mxk (lbc h_5 rfl lbn) (sd_f12_5 D_f12_5)
def tt_f12 (x : X_f12) : TT Tryz.prog R_f12 :=
 (.call con_f2p x fun (y1 : R_f2p) =>
 (.ite (!y1)
 (.ret ((Bx.mk true (TFa.mk (TPg.mk (Sl.mk true 0 (fun _i2 => (TRg.mk 0 0 0))) (Sl.mk true 0 (fun _i2 => (Sl.mk true 0 (fun _i3 => (TIn.mk 0 0 0 0 0 0)))))) (Sl.mk true 0 (fun _i2 => (TTh.mk 0 0 0 0 0 (fun _i3 => (0 : Int)) (Sl.mk true 0 (fun _i3 => (0 : Int)))))) (Sl.mk true 0 (fun _i2 => (Bx.mk true (TRr.mk (TRc.mk 0 (Sl.mk true 0 (fun _i3 => (0 : Int)))) (Bx.mk true (TSs.mk (Sl.mk true 0 (fun _i3 => (TSo.mk 0 0 0))) 0)) 0 false)))) 0 0 false)), 1))
 (.call con_fu x fun (y2 : R_fu) =>
 (.need ((((upto ((x.AB.n : Nat) : Int) (Int.toNat ((x.AB.n : Nat) : Int))) && (B6 0 ((x.AB.n : Nat) : Int))) && (room (Int.toNat ((x.AB.n : Nat) : Int)) 128)) && (decide ((((x.AB.n : Nat) : Int) ≤ (9223372036854775807 : Int))))) <|
 (.Ab S_f12_5 D_f12_5 (X_f12_5.mk x.AF ((x.AF.n : Nat) : Int) 0 (TFa.mk y2 (Sl.mk false (Int.toNat ((x.AB.n : Nat) : Int)) (fun _i3 => (TTh.mk 0 0 0 0 0 (fun _i4 => (0 : Int)) (Sl.mk true 0 (fun _i4 => (0 : Int)))))) (Sl.mk true 0 (fun _i3 => (Bx.mk true (TRr.mk (TRc.mk 0 (Sl.mk true 0 (fun _i4 => (0 : Int)))) (Bx.mk true (TSs.mk (Sl.mk true 0 (fun _i4 => (TSo.mk 0 0 0))) 0)) 0 false)))) 0 0 false)))))))
theorem sd_f12 (x : X_f12) : (tt_f12 x).AJ :=
 (TT.sC fun _ => (TT.sI TT.sR (TT.sC fun _ => (TT.sN TT.sJ))))
def D_f12 : AS X_f12 R_f12 := .of tt_f12
def con_f12 : BN Tryz.prog :=
 CY 13 J_f12 S_f12 D_f12 1 0 [sh_TPg] (lk mxk (lbc ok_f12_5 rfl lbn) sd_f12)
abbrev Dsl_TTh : Type := (Sl TTh)
def esl_TTh : Dsl_TTh → V := (Lu none 14 e_TTh)
def dsl_TTh : V → Dsl_TTh := (LU d_TTh)
def hsl_TTh : Sh := (.sl none 14 (e_TTh (d_TTh .undef)))
abbrev X_f14 : Type := Int × TFa
abbrev R_f14 : Type := Bool
abbrev RR_f14 : Type := Bool × TFa
abbrev p_f14 (y : RR_f14) : TFa := y.2
abbrev w_f14 (x : X_f14) : TFa := x.2
def J_f14 : BT Tryz.prog :=
 Bg Tryz.prog Tryz.f77 20 [] [] [] [.back (.loc 16 0)] [.any] [sh_TFa] [] RR_f14 [] fun y => [V.bool y.1, e_TFa y.2]
def S_f14 : AR :=
 Aq Tryz.f77 2 1 X_f14 (fun x => [(V.ptr (.par 0) []), (V.int .i64) x.1, e_TFa x.2]) fun l => (dI (at_ l 1), d_TFa (at_ l 2))
def tt_f14 (x : X_f14) : TT Tryz.prog RR_f14 :=
 (.ite (B6 0 x.fst)
 (.need ((true && true) && (Nat.beq x.snd.threads.n x.snd.threads.n)) <|
 (.ret ((B8 x.fst ((x.snd.threads.n : Nat) : Int)), x.snd)))
 (.ret (false, x.snd)))
theorem sd_f14 (x : X_f14) : (tt_f14 x).AJ :=
 (TT.sI (TT.sN TT.sR) TT.sR)
theorem roT_f14 (x : X_f14) : TT.Ro p_f14 (w_f14 x) (tt_f14 x) :=
 (TT.rI (TT.rN (TT.rR rfl)) (TT.rR rfl))
def D_f14 : AS X_f14 R_f14 := .ro (.of tt_f14) (fun y => (y.1)) (fun y x => (y, x.2)) fun x y h => congrArg (fun o => (y.1, o)) (roT_f14 x y h)
def con_f14 : BN Tryz.prog :=
 DC 77 J_f14 S_f14 (.of tt_f14) D_f14 (fun y x => (y, x.2)) (fun y => V.bool y) 2 1 [.any, .any] (lk mxk lbn sd_f14) (fun x => ⟨(nu_e_TFa : ∀ y, (e_TFa y).Cd) (x.2), trivial⟩)
abbrev X_f2j : Type := TIn × (Sl TIn)
abbrev R_f2j : Type := Bool
def J_f2j : BT Tryz.prog :=
 Bg Tryz.prog Tryz.f151 19 [(2, 3)] [] [] [] [.any] [] [con_f2y, con_f2x] R_f2j [] fun y => [V.bool y]
def S_f2j : AR :=
 Aq Tryz.f151 2 0 X_f2j (fun x => [e_TIn x.1, (DO esl_TIn) x.2]) fun l => (d_TIn (at_ l 0), (DP dsl_TIn) (at_ l 1))
def tt_f2j (x : X_f2j) : TT Tryz.prog R_f2j :=
 (.call con_f2x x.fst fun (y1 : R_f2x) =>
 (.ite (!y1)
 (.ret true)
 (.call con_f2y x.fst fun (y2 : R_f2y) =>
 (.ite y2
 (.ret (B8 (IntKind.u64.wrap ((x.snd.n : Nat) : Int)) x.fst.K))
 (.ret false)))))
theorem sd_f2j (x : X_f2j) : (tt_f2j x).AJ :=
 (TT.sC fun _ => (TT.sI TT.sR (TT.sC fun _ => (TT.sI TT.sR TT.sR))))
def D_f2j : AS X_f2j R_f2j := .of tt_f2j
def con_f2j : BN Tryz.prog :=
 CY 151 J_f2j S_f2j D_f2j 2 0 [.any, .any] (lk mxk lbn sd_f2j)
abbrev X_f7 : Type := (Sl TIn) × ((Sl TIn))
abbrev R_f7 : Type := Int
def J_f7 : BT Tryz.prog :=
 Bg Tryz.prog Tryz.f180 19 [] [] [] [] [.any] [] [con_f2j] R_f7 [] fun y => [(V.int .i64) y]
def S_f7 : AR :=
 Aq Tryz.f180 2 0 X_f7 (fun x => [esl_TIn x.1, (fun x : ((Sl TIn)) => V.fn 151 (V.cons ((DO esl_TIn) x) (V.unit))) x.2]) fun l => (dsl_TIn (at_ l 0), (fun v => ((DP dsl_TIn) (fd (fnc v) 0) : ((Sl TIn)))) (at_ l 1))
structure X_f7_2 where
 s_0 : (Sl TIn)
 f_1 : ((Sl TIn))
 q_7 : Int
 U0 : Int
def S_f7_2 : AR :=
 Ai Tryz.f180 2 [(0, hsl_TIn), (1, .any), (7, .any), (8, .any)] [] [] X_f7_2 (fun x => [esl_TIn x.s_0, (fun x : ((Sl TIn)) => V.fn 151 (V.cons ((DO esl_TIn) x) (V.unit))) x.f_1, (V.int .i64) x.q_7, (V.int .i64) x.U0]) fun l => ⟨dsl_TIn (at_ l 0), (fun v => ((DP dsl_TIn) (fd (fnc v) 0) : ((Sl TIn)))) (at_ l 1), dI (at_ l 2), dI (at_ l 3)⟩
def tt_f7_2 (D_f7_2 : AS X_f7_2 R_f7) (x : X_f7_2) : TT Tryz.prog R_f7 :=
 (.ite (B8 x.U0 x.q_7)
 (.need (BQ x.U0 x.s_0.n) <|
 (.call con_f2j ((x.s_0.get (Int.toNat x.U0)), x.f_1) fun (y2 : R_f2j) =>
 (.ite y2
 (.ret x.U0)
 (.Ab S_f7_2 D_f7_2 (X_f7_2.mk x.s_0 x.f_1 x.q_7 (IntKind.i64.wrap (x.U0 + 1)))))))
 (.ret (-(1 : Int))))
theorem sd_f7_2 (D_f7_2 : AS X_f7_2 R_f7) (x : X_f7_2) : (tt_f7_2 D_f7_2 x).AJ :=
 (TT.sI (TT.sN (TT.sC fun _ => (TT.sI TT.sR TT.sJ))) TT.sR)
def D_f7_2 : AS X_f7_2 R_f7 := AS.loop tt_f7_2
theorem ok_f7_2 : AX J_f7 S_f7_2 D_f7_2 :=
 BG fun D_f7_2 h_2 => lk mxk (lbc h_2 rfl lbn) (sd_f7_2 D_f7_2)
def tt_f7 (x : X_f7) : TT Tryz.prog R_f7 :=
 (.Ab S_f7_2 D_f7_2 (X_f7_2.mk x.fst x.snd ((x.fst.n : Nat) : Int) 0))
theorem sd_f7 (x : X_f7) : (tt_f7 x).AJ :=
 TT.sJ
def D_f7 : AS X_f7 R_f7 := .of tt_f7
def con_f7 : BN Tryz.prog :=
 CY 180 J_f7 S_f7 D_f7 2 0 [hsl_TIn, .any] (lk mxk (lbc ok_f7_2 rfl lbn) sd_f7)
abbrev X_fk : Type := (Sl TIn) × ((Sl TIn))
abbrev R_fk : Type := Bool
def J_fk : BT Tryz.prog :=
 Bg Tryz.prog Tryz.f150 9 [(5, 1)] [] [] [] [.any] [] [con_f7] R_fk [] fun y => [V.bool y]
def S_fk : AR :=
 Aq Tryz.f150 2 0 X_fk (fun x => [esl_TIn x.1, (fun x : ((Sl TIn)) => V.fn 151 (V.cons ((DO esl_TIn) x) (V.unit))) x.2]) fun l => (dsl_TIn (at_ l 0), (fun v => ((DP dsl_TIn) (fd (fnc v) 0) : ((Sl TIn)))) (at_ l 1))
def tt_fk (x : X_fk) : TT Tryz.prog R_fk :=
 (.call con_f7 x fun (y1 : R_f7) =>
 (.ret (B6 0 y1)))
theorem sd_fk (x : X_fk) : (tt_fk x).AJ :=
 (TT.sC fun _ => TT.sR)
def D_fk : AS X_fk R_fk := .of tt_fk
def con_fk : BN Tryz.prog :=
 CY 150 J_fk S_fk D_fk 2 0 [hsl_TIn, .any] (lk mxk lbn sd_fk)
abbrev X_f30 : Type := (Sl TIn)
abbrev R_f30 : Type := Bool
def J_f30 : BT Tryz.prog :=
 Bg Tryz.prog Tryz.f100 10 [(1, 3)] [] [] [] [.any] [] [con_fk] R_f30 [] fun y => [V.bool y]
def S_f30 : AR :=
 Aq Tryz.f100 1 0 X_f30 (fun x => [esl_TIn x]) fun l => (dsl_TIn (at_ l 0))
def tt_f30 (x : X_f30) : TT Tryz.prog R_f30 :=
 (.ite (B8 256 ((x.n : Nat) : Int))
 (.ret false)
 (.call con_fk (x, x) fun (y1 : R_fk) =>
 (.ret (!y1))))
theorem sd_f30 (x : X_f30) : (tt_f30 x).AJ :=
 (TT.sI TT.sR (TT.sC fun _ => TT.sR))
def D_f30 : AS X_f30 R_f30 := .of tt_f30
def con_f30 : BN Tryz.prog :=
 CY 100 J_f30 S_f30 D_f30 1 0 [hsl_TIn] (lk mxk lbn sd_f30)
abbrev X_fo : Type := (Sl TIn) × TTh
abbrev R_fo : Type := Bool
def J_fo : BT Tryz.prog :=
 Bg Tryz.prog Tryz.f58 88 [(3, 3), (62, 1)] [] [] [] [.any] [] [con_f30] R_fo [] fun y => [V.bool y]
def S_fo : AR :=
 Aq Tryz.f58 2 0 X_fo (fun x => [esl_TIn x.1, e_TTh x.2]) fun l => (dsl_TIn (at_ l 0), d_TTh (at_ l 1))
structure X_fo_3 where
 Ge : (Sl TIn)
 Eh : TTh
def S_fo_3 : AR :=
 Ai Tryz.f58 3 [(0, hsl_TIn), (3, .any)] [] [] X_fo_3 (fun x => [esl_TIn x.Ge, (DO e_TTh) x.Eh]) fun l => ⟨dsl_TIn (at_ l 0), (DP d_TTh) (at_ l 1)⟩
structure X_fo_7 where
 Ge : (Sl TIn)
 Eh : TTh
def S_fo_7 : AR :=
 Ai Tryz.f58 7 [(0, hsl_TIn), (3, .any)] [] [] X_fo_7 (fun x => [esl_TIn x.Ge, (DO e_TTh) x.Eh]) fun l => ⟨dsl_TIn (at_ l 0), (DP d_TTh) (at_ l 1)⟩
def tt_fo_7 (x : X_fo_7) : TT Tryz.prog R_fo :=
 (.need (BQ x.Eh.At x.Ge.n) <|
 (.need (BQ (IntKind.i64.wrap (x.Eh.Phase - 1)) 2) <|
 (.ite (Ae (x.Ge.get (Int.toNat x.Eh.At)).Op (cond (Nat.beq (Int.toNat (IntKind.i64.wrap (x.Eh.Phase - 1))) 0) (18 : Int) (19 : Int)))
 (.ite (Ae (x.Ge.get (Int.toNat x.Eh.At)).C x.Eh.Ring)
 (.ret (B8 x.Eh.AG 4611686018427387904))
 (.ret false))
 (.ret false))))
theorem sd_fo_7 (x : X_fo_7) : (tt_fo_7 x).AJ :=
 (TT.sN (TT.sN (TT.sI (TT.sI TT.sR TT.sR) TT.sR)))
def D_fo_7 : AS X_fo_7 R_fo := .of tt_fo_7
theorem ok_fo_7 : AX J_fo S_fo_7 D_fo_7 :=
 lk mxk lbn sd_fo_7
def tt_fo_3 (x : X_fo_3) : TT Tryz.prog R_fo :=
 (.ite (Ae x.Eh.Phase 0)
 (.ite (Ae x.Eh.Ring 0)
 (.ret (Ae x.Eh.AG 0))
 (.ret false))
 (.ite (!(Ae x.Eh.Status 0))
 (.ret false)
 (.ite (Ae x.Eh.At ((x.Ge.n : Nat) : Int))
 (.ret false)
 (.Ab S_fo_7 D_fo_7 (X_fo_7.mk x.Ge x.Eh)))))
theorem sd_fo_3 (x : X_fo_3) : (tt_fo_3 x).AJ :=
 (TT.sI (TT.sI TT.sR TT.sR) (TT.sI TT.sR (TT.sI TT.sR TT.sJ)))
def D_fo_3 : AS X_fo_3 R_fo := .of tt_fo_3
theorem ok_fo_3 : AX J_fo S_fo_3 D_fo_3 :=
 lk mxk (lbc ok_fo_7 rfl lbn) sd_fo_3
def tt_fo (x : X_fo) : TT Tryz.prog R_fo :=
 (.call con_f30 x.fst fun (y1 : R_f30) =>
 (.ite (!y1)
 (.ret false)
 (.ite (B8 x.snd.At 0)
 (.ret false)
 (.ite (B8 ((x.fst.n : Nat) : Int) x.snd.At)
 (.ret false)
 (.ite (B8 x.snd.Status 0)
 (.ret false)
 (.ite (B8 2 x.snd.Status)
 (.ret false)
 (.ite (B8 x.snd.Phase 0)
 (.ret false)
 (.ite (B8 2 x.snd.Phase)
 (.ret false)
 (.Ab S_fo_3 D_fo_3 (X_fo_3.mk x.fst x.snd))))))))))
theorem sd_fo (x : X_fo) : (tt_fo x).AJ :=
 (TT.sC fun _ => (TT.sI TT.sR (TT.sI TT.sR (TT.sI TT.sR (TT.sI TT.sR (TT.sI TT.sR (TT.sI TT.sR (TT.sI TT.sR TT.sJ))))))))
def D_fo : AS X_fo R_fo := .of tt_fo
def con_fo : BN Tryz.prog :=
 CY 58 J_fo S_fo D_fo 2 0 [hsl_TIn, sh_TTh] (lk mxk (lbc ok_fo_7 rfl (lbc ok_fo_3 rfl lbn)) sd_fo)
abbrev X_f36 : Type := Int
abbrev R_f36 : Type := Bool
def J_f36 : BT Tryz.prog :=
 Bg Tryz.prog Tryz.f194 9 [] [] [] [] [.any] [] [] R_f36 [] fun y => [V.bool y]
def S_f36 : AR :=
 Aq Tryz.f194 1 0 X_f36 (fun x => [(V.int .i64) x]) fun l => (dI (at_ l 0))
def tt_f36 (x : X_f36) : TT Tryz.prog R_f36 :=
 (.ite (B6 18 x)
 (.ret (B6 x 25))
 (.ret false))
theorem sd_f36 (x : X_f36) : (tt_f36 x).AJ :=
 (TT.sI TT.sR TT.sR)
def D_f36 : AS X_f36 R_f36 := .of tt_f36
def con_f36 : BN Tryz.prog :=
 CY 194 J_f36 S_f36 D_f36 1 0 [.any] (lk mxk lbn sd_f36)
abbrev X_f2s : Type := Int × Int
abbrev R_f2s : Type := Int
def J_f2s : BT Tryz.prog :=
 Bg Tryz.prog Tryz.f202 10 [] [] [] [] [.any] [] [] R_f2s [] fun y => [(V.int .u64) y]
def S_f2s : AR :=
 Aq Tryz.f202 2 0 X_f2s (fun x => [(V.int .u64) x.1, (V.int .u64) x.2]) fun l => (dI (at_ l 0), dI (at_ l 1))
def tt_f2s (x : X_f2s) : TT Tryz.prog R_f2s :=
 (.ite (Ae x.snd 0)
 (.ret 0)
 (.need (!(Ae x.snd 0)) <|
 (.ret (IntKind.u64.wrap (Int.tdiv x.fst x.snd)))))
theorem sd_f2s (x : X_f2s) : (tt_f2s x).AJ :=
 (TT.sI TT.sR (TT.sN TT.sR))
def D_f2s : AS X_f2s R_f2s := .of tt_f2s
def con_f2s : BN Tryz.prog :=
 CY 202 J_f2s S_f2s D_f2s 2 0 [.any, .any] (lk mxk lbn sd_f2s)
abbrev X_f3b : Type := Int × Int
abbrev R_f3b : Type := Int
def J_f3b : BT Tryz.prog :=
 Bg Tryz.prog Tryz.f203 10 [] [] [] [] [.any] [] [] R_f3b [] fun y => [(V.int .u64) y]
def S_f3b : AR :=
 Aq Tryz.f203 2 0 X_f3b (fun x => [(V.int .u64) x.1, (V.int .u64) x.2]) fun l => (dI (at_ l 0), dI (at_ l 1))
def tt_f3b (x : X_f3b) : TT Tryz.prog R_f3b :=
 (.ite (Ae x.snd 0)
 (.ret 0)
 (.need (!(Ae x.snd 0)) <|
 (.ret (Int.tmod x.fst x.snd))))
theorem sd_f3b (x : X_f3b) : (tt_f3b x).AJ :=
 (TT.sI TT.sR (TT.sN TT.sR))
def D_f3b : AS X_f3b R_f3b := .of tt_f3b
def con_f3b : BN Tryz.prog :=
 CY 203 J_f3b S_f3b D_f3b 2 0 [.any, .any] (lk mxk lbn sd_f3b)
abbrev X_f3f : Type := Bool
abbrev R_f3f : Type := Int
def J_f3f : BT Tryz.prog :=
 Bg Tryz.prog Tryz.f204 4 [] [] [] [] [.any] [] [] R_f3f [] fun y => [(V.int .u64) y]
def S_f3f : AR :=
 Aq Tryz.f204 1 0 X_f3f (fun x => [V.bool x]) fun l => (dB (at_ l 0))
def tt_f3f (x : X_f3f) : TT Tryz.prog R_f3f :=
 (.ite x
 (.ret 1)
 (.ret 0))
theorem sd_f3f (x : X_f3f) : (tt_f3f x).AJ :=
 (TT.sI TT.sR TT.sR)
def D_f3f : AS X_f3f R_f3f := .of tt_f3f
def con_f3f : BN Tryz.prog :=
 CY 204 J_f3f S_f3f D_f3f 1 0 [.any] (lk mxk lbn sd_f3f)
abbrev X_f3h : Type := Int × Int × Int
abbrev R_f3h : Type := Int × Bool
def J_f3h : BT Tryz.prog :=
 Bg Tryz.prog Tryz.f201 73 [] [] [] [] [.any, .any] [] [con_f3f, con_f2s, con_f3b] R_f3h [] fun y => [V.CR (V.cons ((V.int .u64) y.1) (V.cons (V.bool y.2) (V.unit)))]
def S_f3h : AR :=
 Aq Tryz.f201 3 0 X_f3h (fun x => [(V.int .i64) x.1, (V.int .u64) x.2.1, (V.int .u64) x.2.2]) fun l => (dI (at_ l 0), dI (at_ l 1), dI (at_ l 2))
def tt_f3h (x : X_f3h) : TT Tryz.prog R_f3h :=
 (.ite (Ae x.fst 3)
 (.ret ((IntKind.u64.wrap (x.snd.fst + x.snd.snd)), true))
 (.ite (Ae x.fst 4)
 (.ret ((IntKind.u64.wrap (x.snd.fst - x.snd.snd)), true))
 (.ite (Ae x.fst 5)
 (.ret ((IntKind.u64.wrap (x.snd.fst * x.snd.snd)), true))
 (.ite (Ae x.fst 6)
 (.call con_f2s x.snd fun (y1 : R_f2s) =>
 (.ret (y1, true)))
 (.ite (Ae x.fst 7)
 (.call con_f3b x.snd fun (y1 : R_f3b) =>
 (.ret (y1, true)))
 (.ite (Ae x.fst 8)
 (.ret ((Vm.bits .and IntKind.u64 x.snd.fst x.snd.snd), true))
 (.ite (Ae x.fst 9)
 (.ret ((Vm.bits .or IntKind.u64 x.snd.fst x.snd.snd), true))
 (.ite (Ae x.fst 10)
 (.ret ((Vm.bits .xor IntKind.u64 x.snd.fst x.snd.snd), true))
 (.ite (Ae x.fst 11)
 (.ret ((shl IntKind.u64 x.snd.fst (Vm.bits .and IntKind.u64 x.snd.snd 63)), true))
 (.ite (Ae x.fst 12)
 (.ret ((shr IntKind.u64 x.snd.fst (Vm.bits .and IntKind.u64 x.snd.snd 63)), true))
 (.ite (Ae x.fst 13)
 (.call con_f3f (B8 x.snd.fst x.snd.snd) fun (y1 : R_f3f) =>
 (.ret (y1, true)))
 (.ite (Ae x.fst 14)
 (.call con_f3f (Ae x.snd.fst x.snd.snd) fun (y1 : R_f3f) =>
 (.ret (y1, true)))
 (.ret (0, false))))))))))))))
theorem sd_f3h (x : X_f3h) : (tt_f3h x).AJ :=
 (TT.sI TT.sR (TT.sI TT.sR (TT.sI TT.sR (TT.sI (TT.sC fun _ => TT.sR) (TT.sI (TT.sC fun _ => TT.sR) (TT.sI TT.sR (TT.sI TT.sR (TT.sI TT.sR (TT.sI TT.sR (TT.sI TT.sR (TT.sI (TT.sC fun _ => TT.sR) (TT.sI (TT.sC fun _ => TT.sR) TT.sR))))))))))))
def D_f3h : AS X_f3h R_f3h := .of tt_f3h
def con_f3h : BN Tryz.prog :=
 CY 201 J_f3h S_f3h D_f3h 3 0 [.any, .any, .any] (lk mxk lbn sd_f3h)
abbrev OX : Type := (Sl Int)
def F5 : OX → V := (Lu (some 36) 1 (V.int .u64))
def ID : V → OX := (LU dI)
def F3 : Sh := (.sl (some 36) 1 (V.int .u64 0))
def e_TTh_6 (x : TTh) : V :=
 V.cons ((V.int .i64) x.At) (V.cons ((V.int .i64) x.Phase) (V.cons ((V.int .i64) x.Ring) (V.cons ((V.int .i64) x.Status) (V.cons ((V.int .u64) x.AG) (V.cons ((Hf 1 8 (V.int .u64)) x.Ao) (V.cons (F5 x.Seen) (V.unit)))))))
theorem nu_e_TTh_6 (x : TTh) : (e_TTh_6 x).Cd := ⟨trivial, trivial, trivial, trivial, trivial, (fun _ _ => trivial : ∀ y, ((Hf 1 8 (V.int .u64)) y).Cd) x.Ao, trivial, trivial⟩
def sh_TTh_6 : Sh := (.cons .any (.cons .any (.cons .any (.cons .any (.cons .any (.cons .any (.cons F3 .any)))))))
abbrev X_f2k : Type := TIn × TTh
abbrev R_f2k : Type := TTh
def J_f2k : BT Tryz.prog :=
 Bg Tryz.prog Tryz.f195 90 [(2, 3), (17, 1)] [] [] [] [] [sh_TTh_6] [con_f3h] R_f2k [] fun y => [V.CR (V.unit), e_TTh_6 y]
def S_f2k : AR :=
 Aq Tryz.f195 2 1 X_f2k (fun x => [e_TIn x.1, (V.ptr (.par 0) []), e_TTh_6 x.2]) fun l => (d_TIn (at_ l 0), d_TTh (at_ l 2))
def tt_f2k (x : X_f2k) : TT Tryz.prog R_f2k :=
 (.ite (Ae x.fst.Op 1)
 (.need (BQ x.fst.A 8) <|
 (.ret (TTh.mk (IntKind.i64.wrap (x.snd.At + 1)) x.snd.Phase x.snd.Ring x.snd.Status x.snd.AG (fun i1 => (cond (Nat.beq i1 (Int.toNat x.fst.A)) x.fst.K (x.snd.Ao i1))) x.snd.Seen)))
 (.ite (Ae x.fst.Op 2)
 (.need (BQ x.fst.B 8) <|
 (.need (BQ x.fst.A 8) <|
 (.ret (TTh.mk (IntKind.i64.wrap (x.snd.At + 1)) x.snd.Phase x.snd.Ring x.snd.Status x.snd.AG (fun i1 => (cond (Nat.beq i1 (Int.toNat x.fst.A)) (x.snd.Ao (Int.toNat x.fst.B)) (x.snd.Ao i1))) x.snd.Seen))))
 (.ite (Ae x.fst.Op 15)
 (.ret (TTh.mk (IntKind.i64.wrap x.fst.K) x.snd.Phase x.snd.Ring x.snd.Status x.snd.AG x.snd.Ao x.snd.Seen))
 (.ite (Ae x.fst.Op 16)
 (.need (BQ x.fst.A 8) <|
 (.ite ((Ae (x.snd.Ao (Int.toNat x.fst.A)) 0) == (Ae x.fst.Op 16))
 (.ret (TTh.mk (IntKind.i64.wrap x.fst.K) x.snd.Phase x.snd.Ring x.snd.Status x.snd.AG x.snd.Ao x.snd.Seen))
 (.ret (TTh.mk (IntKind.i64.wrap (x.snd.At + 1)) x.snd.Phase x.snd.Ring x.snd.Status x.snd.AG x.snd.Ao x.snd.Seen))))
 (.ite (Ae x.fst.Op 17)
 (.need (BQ x.fst.A 8) <|
 (.ite ((Ae (x.snd.Ao (Int.toNat x.fst.A)) 0) == (Ae x.fst.Op 16))
 (.ret (TTh.mk (IntKind.i64.wrap x.fst.K) x.snd.Phase x.snd.Ring x.snd.Status x.snd.AG x.snd.Ao x.snd.Seen))
 (.ret (TTh.mk (IntKind.i64.wrap (x.snd.At + 1)) x.snd.Phase x.snd.Ring x.snd.Status x.snd.AG x.snd.Ao x.snd.Seen))))
 (.need (BQ x.fst.B 8) <|
 (.need (BQ x.fst.C 8) <|
 (.call con_f3h (x.fst.Op, ((x.snd.Ao (Int.toNat x.fst.B)), (x.snd.Ao (Int.toNat x.fst.C)))) fun (y1 : R_f3h) =>
 (.need (BQ x.fst.A 8) <|
 (.ret (TTh.mk (IntKind.i64.wrap (x.snd.At + 1)) x.snd.Phase x.snd.Ring x.snd.Status x.snd.AG (fun i2 => (cond (Nat.beq i2 (Int.toNat x.fst.A)) y1.fst (x.snd.Ao i2))) x.snd.Seen)))))))))))
theorem sd_f2k (x : X_f2k) : (tt_f2k x).AJ :=
 (TT.sI (TT.sN TT.sR) (TT.sI (TT.sN (TT.sN TT.sR)) (TT.sI TT.sR (TT.sI (TT.sN (TT.sI TT.sR TT.sR)) (TT.sI (TT.sN (TT.sI TT.sR TT.sR)) (TT.sN (TT.sN (TT.sC fun _ => (TT.sN TT.sR)))))))))
def D_f2k : AS X_f2k R_f2k := .of tt_f2k
def con_f2k : BN Tryz.prog :=
 CY 195 J_f2k S_f2k D_f2k 2 1 [.any, .any] (lk mxk lbn sd_f2k)
structure TAk where
 Kind : Int
 Ring : Int
 Mode : Int
 Reader : Int
 AG : Int
 Value : Int
def d_TAk (v : V) : TAk :=
 ⟨dI (fd v 0), dI (fd v 1), dI (fd v 2), dI (fd v 3), dI (fd v 4), dI (fd v 5)⟩
def e_TAk (x : TAk) : V :=
 V.cons ((V.int .i64) x.Kind) (V.cons ((V.int .i64) x.Ring) (V.cons ((V.int .i64) x.Mode) (V.cons ((V.int .i64) x.Reader) (V.cons ((V.int .u64) x.AG) (V.cons ((V.int .u64) x.Value) (V.unit))))))
theorem nu_e_TAk (x : TAk) : (e_TAk x).Cd := ⟨trivial, trivial, trivial, trivial, trivial, trivial, trivial⟩
abbrev X_f31 : Type := TIn × TTh
abbrev R_f31 : Type := TAk
def J_f31 : BT Tryz.prog :=
 Bg Tryz.prog Tryz.f197 52 [(2, 3), (3, 3)] [] [] [] [.any] [] [] R_f31 [] fun y => [e_TAk y]
def S_f31 : AR :=
 Aq Tryz.f197 2 0 X_f31 (fun x => [e_TIn x.1, e_TTh x.2]) fun l => (d_TIn (at_ l 0), d_TTh (at_ l 1))
def tt_f31 (x : X_f31) : TT Tryz.prog R_f31 :=
 (.ite (Ae x.fst.Op 18)
 (.need (BQ x.fst.A 8) <|
 (.ret (TAk.mk 1 x.fst.C x.fst.D 0 0 (x.snd.Ao (Int.toNat x.fst.A)))))
 (.ite (Ae x.fst.Op 19)
 (.ret (TAk.mk 2 x.fst.C x.fst.D (IntKind.i64.wrap x.fst.K) 0 0))
 (.ite (Ae x.fst.Op 20)
 (.ret (TAk.mk 3 x.fst.C 0 0 0 0))
 (.ite (Ae x.fst.Op 21)
 (.ret (TAk.mk 4 0 0 0 0 0))
 (.ite (Ae x.fst.Op 22)
 (.ret (TAk.mk 5 0 0 0 0 0))
 (.ite (Ae x.fst.Op 23)
 (.ret (TAk.mk 6 0 0 0 0 0))
 (.ite (Ae x.fst.Op 24)
 (.need (BQ x.fst.A 8) <|
 (.ret (TAk.mk 7 0 0 0 0 (x.snd.Ao (Int.toNat x.fst.A)))))
 (.ret (TAk.mk 8 0 0 0 0 0)))))))))
theorem sd_f31 (x : X_f31) : (tt_f31 x).AJ :=
 (TT.sI (TT.sN TT.sR) (TT.sI TT.sR (TT.sI TT.sR (TT.sI TT.sR (TT.sI TT.sR (TT.sI TT.sR (TT.sI (TT.sN TT.sR) TT.sR)))))))
def D_f31 : AS X_f31 R_f31 := .of tt_f31
def con_f31 : BN Tryz.prog :=
 CY 197 J_f31 S_f31 D_f31 2 0 [.any, sh_TTh] (lk mxk lbn sd_f31)
abbrev X_f8 : Type := (Sl TIn) × TTh
abbrev R_f8 : Type := TTh × TAk
def J_f8 : BT Tryz.prog :=
 Bg Tryz.prog Tryz.f172 97 [(10, 1), (16, 1), (21, 1), (35, 1), (40, 1), (77, 1), (87, 1), (89, 1), (90, 1)] [] [] [] [sh_TTh_6, .any] [] [con_f2w, con_f36, con_f31, con_f2k] R_f8 [] fun y => [V.CR (V.cons (e_TTh_6 y.1) (V.cons (e_TAk y.2) (V.unit)))]
def S_f8 : AR :=
 Aq Tryz.f172 2 0 X_f8 (fun x => [esl_TIn x.1, e_TTh_6 x.2]) fun l => (dsl_TIn (at_ l 0), d_TTh (at_ l 1))
structure X_f8_8 where
 Ge : (Sl TIn)
 KP : Int
 Dh : TTh
 Qu : TTh
 FO : TAk
def S_f8_8 : AR :=
 Ai Tryz.f172 8 [(0, hsl_TIn), (3, .any), (4, .any), (5, .any), (48, .any)] [] [(.loc 3 0, sh_TTh_6), (.loc 4 0, sh_TTh_6), (.loc 5 0, .any)] X_f8_8 (fun x => [esl_TIn x.Ge, (V.ptr (.loc 3 0) []), (V.ptr (.loc 4 0) []), (V.ptr (.loc 5 0) []), (V.int .i64) x.KP, e_TTh_6 x.Dh, e_TTh_6 x.Qu, e_TAk x.FO]) fun l => ⟨dsl_TIn (at_ l 0), dI (at_ l 4), d_TTh (at_ l 5), d_TTh (at_ l 6), d_TAk (at_ l 7)⟩
structure X_f8_10 where
 Ge : (Sl TIn)
 KP : Int
 Dh : TTh
 Qu : TTh
 FO : TAk
def S_f8_10 : AR :=
 Ai Tryz.f172 10 [(0, hsl_TIn), (3, .any), (4, .any), (5, .any), (48, .any)] [] [(.loc 3 0, sh_TTh_6), (.loc 4 0, sh_TTh_6), (.loc 5 0, .any)] X_f8_10 (fun x => [esl_TIn x.Ge, (V.ptr (.loc 3 0) []), (V.ptr (.loc 4 0) []), (V.ptr (.loc 5 0) []), (V.int .i64) x.KP, e_TTh_6 x.Dh, e_TTh_6 x.Qu, e_TAk x.FO]) fun l => ⟨dsl_TIn (at_ l 0), dI (at_ l 4), d_TTh (at_ l 5), d_TTh (at_ l 6), d_TAk (at_ l 7)⟩
structure X_f8_11 where
 Ge : (Sl TIn)
 KP : Int
 Dh : TTh
 Qu : TTh
 FO : TAk
def S_f8_11 : AR :=
 Ai Tryz.f172 11 [(0, hsl_TIn), (3, .any), (4, .any), (5, .any), (48, .any)] [] [(.loc 3 0, sh_TTh_6), (.loc 4 0, sh_TTh_6), (.loc 5 0, .any)] X_f8_11 (fun x => [esl_TIn x.Ge, (V.ptr (.loc 3 0) []), (V.ptr (.loc 4 0) []), (V.ptr (.loc 5 0) []), (V.int .i64) x.KP, e_TTh_6 x.Dh, e_TTh_6 x.Qu, e_TAk x.FO]) fun l => ⟨dsl_TIn (at_ l 0), dI (at_ l 4), d_TTh (at_ l 5), d_TTh (at_ l 6), d_TAk (at_ l 7)⟩
structure X_f8_12 where
 Ge : (Sl TIn)
 Dh : TTh
 Qu : TTh
 FO : TAk
def S_f8_12 : AR :=
 Ai Tryz.f172 12 [(0, hsl_TIn), (3, .any), (4, .any), (5, .any)] [] [(.loc 3 0, sh_TTh_6), (.loc 4 0, sh_TTh_6), (.loc 5 0, .any)] X_f8_12 (fun x => [esl_TIn x.Ge, (V.ptr (.loc 3 0) []), (V.ptr (.loc 4 0) []), (V.ptr (.loc 5 0) []), e_TTh_6 x.Dh, e_TTh_6 x.Qu, e_TAk x.FO]) fun l => ⟨dsl_TIn (at_ l 0), d_TTh (at_ l 4), d_TTh (at_ l 5), d_TAk (at_ l 6)⟩
def tt_f8_12 (x : X_f8_12) : TT Tryz.prog R_f8 :=
 (.ite (Ae x.Dh.At ((x.Ge.n : Nat) : Int))
 (.ret (x.Dh, (TAk.mk 8 0 0 0 0 0)))
 (.need (BQ x.Dh.At x.Ge.n) <|
 (.call con_f2w (x.Ge.get (Int.toNat x.Dh.At)).Op fun (y1 : R_f2w) =>
 (.ite y1
 (.ret (x.Dh, (TAk.mk 9 0 0 0 0 0)))
 (.need (BQ x.Dh.At x.Ge.n) <|
 (.call con_f31 ((x.Ge.get (Int.toNat x.Dh.At)), x.Dh) fun (y2 : R_f31) =>
 (.ret (x.Dh, y2))))))))
theorem sd_f8_12 (x : X_f8_12) : (tt_f8_12 x).AJ :=
 (TT.sI TT.sR (TT.sN (TT.sC fun _ => (TT.sI TT.sR (TT.sN (TT.sC fun _ => TT.sR))))))
def D_f8_12 : AS X_f8_12 R_f8 := .of tt_f8_12
theorem ok_f8_12 : AX J_f8 S_f8_12 D_f8_12 :=
 lk mxk lbn sd_f8_12
def tt_f8_11 (D_f8_8 : AS X_f8_8 R_f8) (x : X_f8_11) : TT Tryz.prog R_f8 :=
 (.Ab S_f8_8 D_f8_8 (X_f8_8.mk x.Ge (IntKind.i64.wrap (x.KP + 1)) x.Dh x.Qu x.FO))
theorem sd_f8_11 (D_f8_8 : AS X_f8_8 R_f8) (x : X_f8_11) : (tt_f8_11 D_f8_8 x).AJ :=
 TT.sJ
def D_f8_11 (D_f8_8 : AS X_f8_8 R_f8) : AS X_f8_11 R_f8 := .of (tt_f8_11 D_f8_8)
theorem ok_f8_11 (D_f8_8 : AS X_f8_8 R_f8) (h_8 : AX J_f8 S_f8_8 D_f8_8) : AX J_f8 S_f8_11 (D_f8_11 D_f8_8) :=
 lk mxk (lbc h_8 rfl (lbc ok_f8_12 rfl lbn)) (sd_f8_11 D_f8_8)
def tt_f8_10 (D_f8_8 : AS X_f8_8 R_f8) (x : X_f8_10) : TT Tryz.prog R_f8 :=
 (.need (BQ x.Dh.At x.Ge.n) <|
 (.call con_f2k ((x.Ge.get (Int.toNat x.Dh.At)), x.Dh) fun (y2 : R_f2k) =>
 (.Ab S_f8_11 (D_f8_11 D_f8_8) (X_f8_11.mk x.Ge x.KP y2 x.Qu x.FO))))
theorem sd_f8_10 (D_f8_8 : AS X_f8_8 R_f8) (x : X_f8_10) : (tt_f8_10 D_f8_8 x).AJ :=
 (TT.sN (TT.sC fun _ => TT.sJ))
def D_f8_10 (D_f8_8 : AS X_f8_8 R_f8) : AS X_f8_10 R_f8 := .of (tt_f8_10 D_f8_8)
theorem ok_f8_10 (D_f8_8 : AS X_f8_8 R_f8) (h_8 : AX J_f8 S_f8_8 D_f8_8) : AX J_f8 S_f8_10 (D_f8_10 D_f8_8) :=
 lk mxk (lbc h_8 rfl (lbc ok_f8_12 rfl (lbc (ok_f8_11 D_f8_8 h_8) rfl lbn))) (sd_f8_10 D_f8_8)
def tt_f8_8 (D_f8_8 : AS X_f8_8 R_f8) (x : X_f8_8) : TT Tryz.prog R_f8 :=
 (.ite (B8 x.KP 256)
 (.ite (Ae x.Dh.At ((x.Ge.n : Nat) : Int))
 (.Ab S_f8_12 D_f8_12 (X_f8_12.mk x.Ge x.Dh x.Qu x.FO))
 (.need (BQ x.Dh.At x.Ge.n) <|
 (.call con_f36 (x.Ge.get (Int.toNat x.Dh.At)).Op fun (y2 : R_f36) =>
 (.ite y2
 (.Ab S_f8_12 D_f8_12 (X_f8_12.mk x.Ge x.Dh x.Qu x.FO))
 (.Ab S_f8_10 (D_f8_10 D_f8_8) (X_f8_10.mk x.Ge x.KP x.Dh x.Qu x.FO))))))
 (.Ab S_f8_12 D_f8_12 (X_f8_12.mk x.Ge x.Dh x.Qu x.FO)))
theorem sd_f8_8 (D_f8_8 : AS X_f8_8 R_f8) (x : X_f8_8) : (tt_f8_8 D_f8_8 x).AJ :=
 (TT.sI (TT.sI TT.sJ (TT.sN (TT.sC fun _ => (TT.sI TT.sJ TT.sJ)))) TT.sJ)
def D_f8_8 : AS X_f8_8 R_f8 := AS.loop tt_f8_8
theorem ok_f8_8 : AX J_f8 S_f8_8 D_f8_8 :=
 BG fun D_f8_8 h_8 => lk mxk (lbc h_8 rfl (lbc ok_f8_12 rfl (lbc (ok_f8_11 D_f8_8 h_8) rfl (lbc (ok_f8_10 D_f8_8 h_8) rfl lbn)))) (sd_f8_8 D_f8_8)
def tt_f8 (x : X_f8) : TT Tryz.prog R_f8 :=
 (.ite (!(Ae x.snd.Status 0))
 (.ret (x.snd, (TAk.mk 0 0 0 0 0 0)))
 (.ite (Ae x.snd.Phase 1)
 (.need (BQ x.snd.At x.fst.n) <|
 (.need (BQ (x.fst.get (Int.toNat x.snd.At)).A 8) <|
 (.ret (x.snd, (TAk.mk 10 x.snd.Ring 0 0 x.snd.AG (x.snd.Ao (Int.toNat (x.fst.get (Int.toNat x.snd.At)).A)))))))
 (.ite (Ae x.snd.Phase 2)
 (.need (BQ x.snd.At x.fst.n) <|
 (.ret (x.snd, (TAk.mk 11 x.snd.Ring 0 (IntKind.i64.wrap (x.fst.get (Int.toNat x.snd.At)).K) x.snd.AG 0))))
 (.Ab S_f8_8 D_f8_8 (X_f8_8.mk x.fst 0 x.snd (TTh.mk 0 0 0 0 0 (fun _i1 => (0 : Int)) (Sl.mk true 0 (fun _i1 => (0 : Int)))) (TAk.mk 0 0 0 0 0 0))))))
theorem sd_f8 (x : X_f8) : (tt_f8 x).AJ :=
 (TT.sI TT.sR (TT.sI (TT.sN (TT.sN TT.sR)) (TT.sI (TT.sN TT.sR) TT.sJ)))
def D_f8 : AS X_f8 R_f8 := .of tt_f8
def con_f8 : BN Tryz.prog :=
 CY 172 J_f8 S_f8 D_f8 2 0 [hsl_TIn, sh_TTh_6] (lk mxk (lbc ok_f8_12 rfl (lbc ok_f8_8 rfl lbn)) sd_f8)
abbrev X_f1m : Type := (Sl Int)
abbrev R_f1m : Type := (Sl Int)
def J_f1m : BT Tryz.prog :=
 Bg Tryz.prog Tryz.f47 8 [(6, 1)] [] [] [.Eg 2] [F3] [] [] R_f1m [] fun y => [F5 y]
def S_f1m : AR :=
 Aq Tryz.f47 1 0 X_f1m (fun x => [BL x]) fun l => (Bi (at_ l 0))
def tt_f1m (x : X_f1m) : TT Tryz.prog R_f1m :=
 (.ite x.nil
 (.ret (Sl.mk true 0 (fun _i1 => (0 : Int))))
 (.need (true && (room ((0 : Nat) + x.n) 8)) <|
 (.ret (Sl.mk (cond (Nat.beq x.n 0) false false) ((0 : Nat) + x.n) (fun i1 => (cond (Nat.blt i1 0) (0 : Int) (x.get (i1 - 0))))))))
theorem sd_f1m (x : X_f1m) : (tt_f1m x).AJ :=
 (TT.sI TT.sR (TT.sN TT.sR))
def D_f1m : AS X_f1m R_f1m := .of tt_f1m
def con_f1m : BN Tryz.prog :=
 CY 47 J_f1m S_f1m D_f1m 1 0 [BU] (lk mxk lbn sd_f1m)
abbrev X_f2l : Type := (Sl TIn) × TTh
abbrev R_f2l : Type := TTh × TAk × Int
def J_f2l : BT Tryz.prog :=
 Bg Tryz.prog Tryz.f133 26 [(18, 1), (19, 1), (20, 1), (24, 1)] [] [] [] [sh_TTh_6, .any, .any] [] [con_f1m, con_fo, con_f8] R_f2l [] fun y => [V.CR (V.cons (e_TTh_6 y.1) (V.cons (e_TAk y.2.1) (V.cons ((V.int .i64) y.2.2) (V.unit))))]
def S_f2l : AR :=
 Aq Tryz.f133 2 0 X_f2l (fun x => [esl_TIn x.1, e_TTh x.2]) fun l => (dsl_TIn (at_ l 0), d_TTh (at_ l 1))
def tt_f2l (x : X_f2l) : TT Tryz.prog R_f2l :=
 (.call con_fo x fun (y1 : R_fo) =>
 (.ite (!y1)
 (.ret ((TTh.mk 0 0 0 0 0 (fun _i2 => (0 : Int)) (Sl.mk true 0 (fun _i2 => (0 : Int)))), ((TAk.mk 0 0 0 0 0 0), 1)))
 (.call con_f1m x.snd.Seen fun (y2 : R_f1m) =>
 (.call con_f8 (x.fst, (TTh.mk x.snd.At x.snd.Phase x.snd.Ring x.snd.Status x.snd.AG x.snd.Ao y2)) fun (y3 : R_f8) =>
 (.ret (y3.fst, (y3.snd, 0)))))))
theorem sd_f2l (x : X_f2l) : (tt_f2l x).AJ :=
 (TT.sC fun _ => (TT.sI TT.sR (TT.sC fun _ => (TT.sC fun _ => TT.sR))))
def D_f2l : AS X_f2l R_f2l := .of tt_f2l
def con_f2l : BN Tryz.prog :=
 CY 133 J_f2l S_f2l D_f2l 2 0 [hsl_TIn, sh_TTh] (lk mxk lbn sd_f2l)
abbrev X_f15 : Type := Int × TFa
abbrev R_f15 : Type := TAk
abbrev RR_f15 : Type := TAk × TFa
abbrev p_f15 (y : RR_f15) : TFa := y.2
abbrev w_f15 (x : X_f15) : TFa := x.2
def J_f15 : BT Tryz.prog :=
 Bg Tryz.prog Tryz.f78 29 [(8, 1)] [(2, [.back (.loc 20 0)])] [(1, [.HR (.par 0) [.Bk 1 2] 20])] [.back (.loc 20 0)] [.any] [sh_TFa] [con_f2l] RR_f15 [(0, [⟨.loc 20 0, .par 0, [.Bk 1 2], none, none⟩])] fun y => [e_TAk y.1, e_TFa y.2]
def S_f15 : AR :=
 Aq Tryz.f78 2 1 X_f15 (fun x => [(V.ptr (.par 0) []), (V.int .i64) x.1, e_TFa x.2]) fun l => (dI (at_ l 1), d_TFa (at_ l 2))
def tt_f15 (x : X_f15) : TT Tryz.prog RR_f15 :=
 (.need (BQ x.fst x.snd.p.AB.n) <|
 (.need (BQ x.fst x.snd.threads.n) <|
 (.need ((Nat.beq x.snd.threads.n x.snd.threads.n) && true) <|
 (.call con_f2l ((x.snd.p.AB.get (Int.toNat x.fst)), (x.snd.threads.get ((0 : Nat) + (Int.toNat x.fst)))) fun (y1 : R_f2l) =>
 (.need ((true && true) && (Nat.beq x.snd.threads.n x.snd.threads.n)) <|
 (.ret (y1.snd.fst, x.snd)))))))
theorem sd_f15 (x : X_f15) : (tt_f15 x).AJ :=
 (TT.sN (TT.sN (TT.sN (TT.sC fun _ => (TT.sN TT.sR)))))
theorem roT_f15 (x : X_f15) : TT.Ro p_f15 (w_f15 x) (tt_f15 x) :=
 (TT.rN (TT.rN (TT.rN (TT.rC fun _ => (TT.rN (TT.rR rfl))))))
def D_f15 : AS X_f15 R_f15 := .ro (.of tt_f15) (fun y => (y.1)) (fun y x => (y, x.2)) fun x y h => congrArg (fun o => (y.1, o)) (roT_f15 x y h)
def con_f15 : BN Tryz.prog :=
 DC 78 J_f15 S_f15 (.of tt_f15) D_f15 (fun y x => (y, x.2)) (fun y => e_TAk y) 2 1 [.any, .any] (lk mxk lbn sd_f15) (fun x => ⟨(nu_e_TFa : ∀ y, (e_TFa y).Cd) (x.2), trivial⟩)
abbrev X_f1g : Type := Int × TFa
abbrev R_f1g : Type := TAk × Int
abbrev RR_f1g : Type := TAk × Int × TFa
abbrev p_f1g (y : RR_f1g) : TFa := y.2.2
abbrev w_f1g (x : X_f1g) : TFa := x.2
def J_f1g : BT Tryz.prog :=
 Bg Tryz.prog Tryz.f42 19 [] [] [] [] [.any, .any] [sh_TFa] [con_f15, con_f14] RR_f1g [] fun y => [V.CR (V.cons (e_TAk y.1) (V.cons ((V.int .i64) y.2.1) (V.unit))), e_TFa y.2.2]
def S_f1g : AR :=
 Aq Tryz.f42 2 1 X_f1g (fun x => [(V.ptr (.par 0) []), (V.int .i64) x.1, e_TFa x.2]) fun l => (dI (at_ l 1), d_TFa (at_ l 2))
def tt_f1g (x : X_f1g) : TT Tryz.prog RR_f1g :=
 (.call con_f14 (x.fst, x.snd) fun (y1 : R_f14) =>
 (.ite (!y1)
 (.ret ((TAk.mk 0 0 0 0 0 0), (5, x.snd)))
 (.call con_f15 (x.fst, x.snd) fun (y2 : R_f15) =>
 (.ret (y2, (0, x.snd))))))
theorem sd_f1g (x : X_f1g) : (tt_f1g x).AJ :=
 (TT.sC fun _ => (TT.sI TT.sR (TT.sC fun _ => TT.sR)))
theorem roT_f1g (x : X_f1g) : TT.Ro p_f1g (w_f1g x) (tt_f1g x) :=
 (TT.rC fun _ => (TT.rI (TT.rR rfl) (TT.rC fun _ => (TT.rR rfl))))
def D_f1g : AS X_f1g R_f1g := .ro (.of tt_f1g) (fun y => (y.1, y.2.1)) (fun y x => (y.1, y.2, x.2)) fun x y h => congrArg (fun o => (y.1, y.2.1, o)) (roT_f1g x y h)
def con_f1g : BN Tryz.prog :=
 DC 42 J_f1g S_f1g (.of tt_f1g) D_f1g (fun y x => (y.1, y.2, x.2)) (fun y => V.CR (V.cons (e_TAk y.1) (V.cons ((V.int .i64) y.2) (V.unit)))) 2 1 [.any, .any] (lk mxk lbn sd_f1g) (fun x => ⟨(nu_e_TFa : ∀ y, (e_TFa y).Cd) (x.2), trivial⟩)
abbrev X_fr : Type := (Ar TSo)
abbrev R_fr : Type := (Sl TSo)
abbrev RR_fr : Type := (Sl TSo) × (Ar TSo)
abbrev p_fr (y : RR_fr) : (Ar TSo) := y.2
abbrev w_fr (x : X_fr) : (Ar TSo) := x
def J_fr : BT Tryz.prog :=
 Bg Tryz.prog Tryz.f137 8 [(6, 1)] [] [] [.Eg 2] [hsl_TSo] [.any] [] RR_fr [] fun y => [esl_TSo y.1, (Lv 3 e_TSo) y.2]
def S_fr : AR :=
 Aq Tryz.f137 1 1 X_fr (fun x => [(V.own (.par 0) [] 3 x.n 0 x.n), (Lv 3 e_TSo) x]) fun l => ((RN d_TSo) (at_ l 1))
def tt_fr (x : X_fr) : TT Tryz.prog RR_fr :=
 (.need (Nat.blt 0 x.n) <|
 (.need ((true && (Nat.beq x.n x.n)) && (room ((0 : Nat) + x.n) 24)) <|
 (.side (∀ i1 : Nat, ((i1 < x.n) → ((true && (true && (true && true))) = true))) <|
 (.ret ((Sl.mk (cond (Nat.beq x.n 0) false false) ((0 : Nat) + x.n) (fun i1 => (TSo.mk (cond (Nat.blt i1 0) (0 : Int) (x.get ((0 : Nat) + (i1 - 0))).AQ) (cond (Nat.blt i1 0) (0 : Int) (x.get ((0 : Nat) + (i1 - 0))).Value) (cond (Nat.blt i1 0) (0 : Int) (x.get ((0 : Nat) + (i1 - 0))).Left)))), x)))))
theorem sd_fr (x : X_fr) : (tt_fr x).AJ :=
 (TT.sN (TT.sN (TT.sS (fun _ _ => rfl) TT.sR)))
theorem roT_fr (x : X_fr) : TT.Ro p_fr (w_fr x) (tt_fr x) :=
 (TT.rN (TT.rN (TT.rS (TT.rR rfl))))
def D_fr : AS X_fr R_fr := .ro (.of tt_fr) (fun y => (y.1)) (fun y x => (y, x)) fun x y h => congrArg (fun o => (y.1, o)) (roT_fr x y h)
def con_fr : BN Tryz.prog :=
 DC 137 J_fr S_fr (.of tt_fr) D_fr (fun y x => (y, x)) (fun y => esl_TSo y) 1 1 [.any] (lk mxk lbn sd_fr) (fun x => ⟨(fun _ _ => (nu_e_TSo) _ : ∀ y, ((Lv 3 e_TSo) y).Cd) (x), trivial⟩)
abbrev X_f1p : Type := TSs
abbrev R_f1p : Type := (Sl TSo)
abbrev RR_f1p : Type := (Sl TSo) × TSs
abbrev p_f1p (y : RR_f1p) : TSs := y.2
abbrev w_f1p (x : X_f1p) : TSs := x
def J_f1p : BT Tryz.prog :=
 Bg Tryz.prog Tryz.f84 10 [] [] [] [.back (.loc 8 0), .Eg 2] [hsl_TSo] [sh_TSs] [con_fr] RR_f1p [] fun y => [esl_TSo y.1, e_TSs y.2]
def S_f1p : AR :=
 Aq Tryz.f84 1 1 X_f1p (fun x => [(V.ptr (.par 0) []), e_TSs x]) fun l => (d_TSs (at_ l 1))
def tt_f1p (x : X_f1p) : TT Tryz.prog RR_f1p :=
 (.call con_fr (Ar.mk x.l.n x.l.get) fun (y1 : R_fr) =>
 (.need ((true && true) && (Nat.beq x.l.n x.l.n)) <|
 (.ret (y1, x))))
theorem sd_f1p (x : X_f1p) : (tt_f1p x).AJ :=
 (TT.sC fun _ => (TT.sN TT.sR))
theorem roT_f1p (x : X_f1p) : TT.Ro p_f1p (w_f1p x) (tt_f1p x) :=
 (TT.rC fun _ => (TT.rN (TT.rR rfl)))
def D_f1p : AS X_f1p R_f1p := .ro (.of tt_f1p) (fun y => (y.1)) (fun y x => (y, x)) fun x y h => congrArg (fun o => (y.1, o)) (roT_f1p x y h)
def con_f1p : BN Tryz.prog :=
 DC 84 J_f1p S_f1p (.of tt_f1p) D_f1p (fun y x => (y, x)) (fun y => esl_TSo y) 1 1 [.any] (lk mxk lbn sd_f1p) (fun x => ⟨(nu_e_TSs : ∀ y, (e_TSs y).Cd) (x), trivial⟩)
abbrev X_fw : Type := (Ar Int)
abbrev R_fw : Type := (Sl Int)
abbrev RR_fw : Type := (Sl Int) × (Ar Int)
abbrev p_fw (y : RR_fw) : (Ar Int) := y.2
abbrev w_fw (x : X_fw) : (Ar Int) := x
def J_fw : BT Tryz.prog :=
 Bg Tryz.prog Tryz.f47 8 [(6, 1)] [] [] [.Eg 2] [BU] [.any] [] RR_fw [] fun y => [BL y.1, (Lv 1 (V.int .u64)) y.2]
def S_fw : AR :=
 Aq Tryz.f47 1 1 X_fw (fun x => [(V.own (.par 0) [] 1 x.n 0 x.n), (Lv 1 (V.int .u64)) x]) fun l => ((RN dI) (at_ l 1))
def tt_fw (x : X_fw) : TT Tryz.prog RR_fw :=
 (.need (Nat.blt 0 x.n) <|
 (.need ((true && (Nat.beq x.n x.n)) && (room ((0 : Nat) + x.n) 8)) <|
 (.side (∀ i1 : Nat, ((i1 < x.n) → (true = true))) <|
 (.ret ((Sl.mk (cond (Nat.beq x.n 0) false false) ((0 : Nat) + x.n) (fun i1 => (cond (Nat.blt i1 0) (0 : Int) (x.get ((0 : Nat) + (i1 - 0)))))), x)))))
theorem sd_fw (x : X_fw) : (tt_fw x).AJ :=
 (TT.sN (TT.sN (TT.sS (fun _ _ => rfl) TT.sR)))
theorem roT_fw (x : X_fw) : TT.Ro p_fw (w_fw x) (tt_fw x) :=
 (TT.rN (TT.rN (TT.rS (TT.rR rfl))))
def D_fw : AS X_fw R_fw := .ro (.of tt_fw) (fun y => (y.1)) (fun y x => (y, x)) fun x y h => congrArg (fun o => (y.1, o)) (roT_fw x y h)
def con_fw : BN Tryz.prog :=
 DC 47 J_fw S_fw (.of tt_fw) D_fw (fun y x => (y, x)) (fun y => BL y) 1 1 [.any] (lk mxk lbn sd_fw) (fun x => ⟨(fun _ _ => trivial : ∀ y, ((Lv 1 (V.int .u64)) y).Cd) (x), trivial⟩)
structure TRs where
 A6 : Int
 Aj : (Sl Int)
 Bj : Bool
 A4 : (Sl TSo)
def d_TRs (v : V) : TRs :=
 ⟨dI (fd v 0), Bi (fd v 1), dB (fd v 2), dsl_TSo (fd v 3)⟩
def e_TRs (x : TRs) : V :=
 V.cons ((V.int .u64) x.A6) (V.cons (BL x.Aj) (V.cons (V.bool x.Bj) (V.cons (esl_TSo x.A4) (V.unit))))
theorem nu_e_TRs (x : TRs) : (e_TRs x).Cd := ⟨trivial, trivial, trivial, trivial, trivial⟩
def sh_TRs : Sh := (.cons .any (.cons BU (.cons .any (.cons hsl_TSo .any))))
abbrev X_f1d : Type := TRr
abbrev R_f1d : Type := TRs
abbrev RR_f1d : Type := TRs × TRr
abbrev p_f1d (y : RR_f1d) : TRr := y.2
abbrev w_f1d (x : X_f1d) : TRr := x
def J_f1d : BT Tryz.prog :=
 Bg Tryz.prog Tryz.f48 27 [] [] [(3, [.HR (.par 0) [.Bk 0 0, .Bk 1 1] 15, .HR (.par 0) [.Bk 1 2] 24])] [.back (.loc 24 0), .back (.loc 15 0)] [sh_TRs] [sh_TRr] [con_fw, con_f1p] RR_f1d [(0, [⟨.loc 15 0, .par 0, [.Bk 0 0, .Bk 1 1], none, none⟩, ⟨.loc 24 0, .par 0, [.Bk 1 2], none, none⟩])] fun y => [e_TRs y.1, e_TRr y.2]
def S_f1d : AR :=
 Aq Tryz.f48 1 1 X_f1d (fun x => [(V.ptr (.par 0) []), e_TRr x]) fun l => (d_TRr (at_ l 1))
def tt_f1d (x : X_f1d) : TT Tryz.prog RR_f1d :=
 (.need ((true && true) && (!x.s.nil)) <|
 (.call con_fw (Ar.mk x.AA.AD.n x.AA.AD.get) fun (y1 : R_fw) =>
 (.call con_f1p x.s.x fun (y2 : R_f1p) =>
 (.need ((true && true) && (!x.s.nil)) <|
 (.side ((fun v : V => v = v) (V.cons (V.A0 175 3 x.s.x.l.nil x.s.x.l.n (fun i3 => (V.cons (V.int IntKind.u64 (x.s.x.l.get i3).AQ) (V.cons (V.int IntKind.u64 (x.s.x.l.get i3).Value) (V.cons (V.int IntKind.i64 (x.s.x.l.get i3).Left) V.unit))))) (V.cons (V.int IntKind.i64 x.s.x.AO) V.unit))) <|
 (.need ((true && true) && (Nat.beq x.AA.AD.n x.AA.AD.n)) <|
 (.ret ((TRs.mk x.AA.tail y1 x.closed y2), x))))))))
theorem sd_f1d (x : X_f1d) : (tt_f1d x).AJ :=
 (TT.sN (TT.sC fun _ => (TT.sC fun _ => (TT.sN (TT.sS rfl (TT.sN TT.sR))))))
theorem roT_f1d (x : X_f1d) : TT.Ro p_f1d (w_f1d x) (tt_f1d x) :=
 (TT.rN (TT.rC fun _ => (TT.rC fun _ => (TT.rN (TT.rS (TT.rN (TT.rR rfl)))))))
def D_f1d : AS X_f1d R_f1d := .ro (.of tt_f1d) (fun y => (y.1)) (fun y x => (y, x)) fun x y h => congrArg (fun o => (y.1, o)) (roT_f1d x y h)
def con_f1d : BN Tryz.prog :=
 DC 48 J_f1d S_f1d (.of tt_f1d) D_f1d (fun y x => (y, x)) (fun y => e_TRs y) 1 1 [.any] (lk mxk lbn sd_f1d) (fun x => ⟨(nu_e_TRr : ∀ y, (e_TRr y).Cd) (x), trivial⟩)
abbrev X_f1o : Type := Int × Int × Int × TSo
abbrev R_f1o : Type := Bool
def J_f1o : BT Tryz.prog :=
 Bg Tryz.prog Tryz.f149 45 [(7, 3)] [] [] [] [.any] [] [] R_f1o [] fun y => [V.bool y]
def S_f1o : AR :=
 Aq Tryz.f149 4 0 X_f1o (fun x => [(V.int .i64) x.1, (V.int .i64) x.2.1, (V.int .i64) x.2.2.1, e_TSo x.2.2.2]) fun l => (dI (at_ l 0), dI (at_ l 1), dI (at_ l 2), d_TSo (at_ l 3))
structure X_f1o_3 where
 Ii : Int
 Uz : TSo
def S_f1o_3 : AR :=
 Ai Tryz.f149 3 (an [2, 7]) [] [] X_f1o_3 (fun x => [(V.int .i64) x.Ii, (DO e_TSo) x.Uz]) fun l => ⟨dI (at_ l 0), (DP d_TSo) (at_ l 1)⟩
def tt_f1o_3 (x : X_f1o_3) : TT Tryz.prog R_f1o :=
 (.ite (Ae (Int.tmod x.Uz.AQ 2) 0)
 (.ite (Ae x.Uz.Value 0)
 (.ret (Ae x.Uz.Left 0))
 (.ret false))
 (.ite (B6 1 x.Uz.Left)
 (.need (B6 0 x.Ii) <|
 (.ret (B8 x.Uz.Left (shl IntKind.i64 1 x.Ii))))
 (.ret false)))
theorem sd_f1o_3 (x : X_f1o_3) : (tt_f1o_3 x).AJ :=
 (TT.sI (TT.sI TT.sR TT.sR) (TT.sI (TT.sN TT.sR) TT.sR))
def D_f1o_3 : AS X_f1o_3 R_f1o := .of tt_f1o_3
theorem ok_f1o_3 : AX J_f1o S_f1o_3 D_f1o_3 :=
 lk mxk lbn sd_f1o_3
def tt_f1o (x : X_f1o) : TT Tryz.prog R_f1o :=
 (.ite (B6 9223372036854775808 x.snd.snd.snd.AQ)
 (.ret false)
 (.need (!(Ae (IntKind.u64.wrap x.snd.fst) 0)) <|
 (.ite (!(Ae (Int.tmod (IntKind.u64.wrap (Int.tdiv x.snd.snd.snd.AQ 2)) (IntKind.u64.wrap x.snd.fst)) (IntKind.u64.wrap x.fst)))
 (.ret false)
 (.Ab S_f1o_3 D_f1o_3 (X_f1o_3.mk x.snd.snd.fst x.snd.snd.snd)))))
theorem sd_f1o (x : X_f1o) : (tt_f1o x).AJ :=
 (TT.sI TT.sR (TT.sN (TT.sI TT.sR TT.sJ)))
def D_f1o : AS X_f1o R_f1o := .of tt_f1o
def con_f1o : BN Tryz.prog :=
 CY 149 J_f1o S_f1o D_f1o 4 0 [.any, .any, .any, .any] (lk mxk (lbc ok_f1o_3 rfl lbn) sd_f1o)
abbrev X_f1f : Type := (Sl TSo)
abbrev R_f1f : Type := (Sl TSo)
def J_f1f : BT Tryz.prog :=
 Bg Tryz.prog Tryz.f137 8 [(5, 1), (6, 1)] [] [] [.Eg 2] [hosl_TSo] [] [] R_f1f [] fun y => [eosl_TSo y]
def S_f1f : AR :=
 Aq Tryz.f137 1 0 X_f1f (fun x => [esl_TSo x]) fun l => (dsl_TSo (at_ l 0))
def tt_f1f (x : X_f1f) : TT Tryz.prog R_f1f :=
 (.ite x.nil
 (.ret (Sl.mk true 0 (fun _i1 => (TSo.mk 0 0 0))))
 (.need (true && (room ((0 : Nat) + x.n) 24)) <|
 (.ret (Sl.mk (cond (Nat.beq x.n 0) false false) ((0 : Nat) + x.n) (fun i1 => (TSo.mk (cond (Nat.blt i1 0) (0 : Int) (x.get (i1 - 0)).AQ) (cond (Nat.blt i1 0) (0 : Int) (x.get (i1 - 0)).Value) (cond (Nat.blt i1 0) (0 : Int) (x.get (i1 - 0)).Left)))))))
theorem sd_f1f (x : X_f1f) : (tt_f1f x).AJ :=
 (TT.sI TT.sR (TT.sN TT.sR))
def D_f1f : AS X_f1f R_f1f := .of tt_f1f
def con_f1f : BN Tryz.prog :=
 CY 137 J_f1f S_f1f D_f1f 1 0 [hsl_TSo] (lk mxk lbn sd_f1f)
abbrev X_fs : Type := Int × Int × (Sl TSo)
abbrev R_fs : Type := (Bx TSs) × Int
def J_fs : BT Tryz.prog :=
 Bg Tryz.prog Tryz.f98 37 [(32, 1)] [] [] [.Eg 6] [hbox_TSs, .any] [] [con_f1f, con_f33, con_f1o] R_fs [] fun y => [V.CR (V.cons (ebox_TSs y.1) (V.cons ((V.int .i64) y.2) (V.unit)))]
def S_fs : AR :=
 Aq Tryz.f98 3 0 X_fs (fun x => [(V.int .i64) x.1, (V.int .i64) x.2.1, esl_TSo x.2.2]) fun l => (dI (at_ l 0), dI (at_ l 1), dsl_TSo (at_ l 2))
structure X_fs_6 where
 KT : Int
 EP : Int
 U2 : (Sl TSo)
 TV : (Sl TSo)
 UW : Int
 Qf : Int
def S_fs_6 : AR :=
 Ai Tryz.f98 6 [(0, .any), (1, .any), (2, hsl_TSo), (18, hsl_TSo), (19, .any), (20, .any)] [] [] X_fs_6 (fun x => [(V.int .i64) x.KT, (V.int .i64) x.EP, esl_TSo x.U2, esl_TSo x.TV, (V.int .i64) x.UW, (V.int .i64) x.Qf]) fun l => ⟨dI (at_ l 0), dI (at_ l 1), dsl_TSo (at_ l 2), dsl_TSo (at_ l 3), dI (at_ l 4), dI (at_ l 5)⟩
structure X_fs_11 where
 EP : Int
 U2 : (Sl TSo)
def S_fs_11 : AR :=
 Ai Tryz.f98 11 [(1, .any), (2, hsl_TSo)] [] [] X_fs_11 (fun x => [(V.int .i64) x.EP, esl_TSo x.U2]) fun l => ⟨dI (at_ l 0), dsl_TSo (at_ l 1)⟩
def tt_fs_11 (x : X_fs_11) : TT Tryz.prog R_fs :=
 (.call con_f1f x.U2 fun (y1 : R_f1f) =>
 (.ret ((Bx.mk false (TSs.mk y1 x.EP)), 0)))
theorem sd_fs_11 (x : X_fs_11) : (tt_fs_11 x).AJ :=
 (TT.sC fun _ => TT.sR)
def D_fs_11 : AS X_fs_11 R_fs := .of tt_fs_11
theorem ok_fs_11 : AX J_fs S_fs_11 D_fs_11 :=
 lk mxk lbn sd_fs_11
def tt_fs_6 (D_fs_6 : AS X_fs_6 R_fs) (x : X_fs_6) : TT Tryz.prog R_fs :=
 (.ite (B8 x.Qf x.UW)
 (.need (BQ x.Qf x.TV.n) <|
 (.call con_f1o (x.Qf, (x.KT, (x.EP, (x.TV.get (Int.toNat x.Qf))))) fun (y2 : R_f1o) =>
 (.ite (!y2)
 (.ret ((Bx.mk true (TSs.mk (Sl.mk true 0 (fun _i3 => (TSo.mk 0 0 0))) 0)), 3))
 (.Ab S_fs_6 D_fs_6 (X_fs_6.mk x.KT x.EP x.U2 x.TV x.UW (IntKind.i64.wrap (x.Qf + 1)))))))
 (.Ab S_fs_11 D_fs_11 (X_fs_11.mk x.EP x.U2)))
theorem sd_fs_6 (D_fs_6 : AS X_fs_6 R_fs) (x : X_fs_6) : (tt_fs_6 D_fs_6 x).AJ :=
 (TT.sI (TT.sN (TT.sC fun _ => (TT.sI TT.sR TT.sJ))) TT.sJ)
def D_fs_6 : AS X_fs_6 R_fs := AS.loop tt_fs_6
theorem ok_fs_6 : AX J_fs S_fs_6 D_fs_6 :=
 BG fun D_fs_6 h_6 => lk mxk (lbc h_6 rfl (lbc ok_fs_11 rfl lbn)) (sd_fs_6 D_fs_6)
def tt_fs (x : X_fs) : TT Tryz.prog R_fs :=
 (.call con_f33 (x.fst, x.snd.fst) fun (y1 : R_f33) =>
 (.ite (!y1)
 (.ret ((Bx.mk true (TSs.mk (Sl.mk true 0 (fun _i2 => (TSo.mk 0 0 0))) 0)), 1))
 (.ite (!(Ae ((x.snd.snd.n : Nat) : Int) x.fst))
 (.ret ((Bx.mk true (TSs.mk (Sl.mk true 0 (fun _i2 => (TSo.mk 0 0 0))) 0)), 3))
 (.Ab S_fs_6 D_fs_6 (X_fs_6.mk x.fst x.snd.fst x.snd.snd x.snd.snd ((x.snd.snd.n : Nat) : Int) 0)))))
theorem sd_fs (x : X_fs) : (tt_fs x).AJ :=
 (TT.sC fun _ => (TT.sI TT.sR (TT.sI TT.sR TT.sJ)))
def D_fs : AS X_fs R_fs := .of tt_fs
def con_fs : BN Tryz.prog :=
 CY 98 J_fs S_fs D_fs 3 0 [.any, .any, hsl_TSo] (lk mxk (lbc ok_fs_11 rfl (lbc ok_fs_6 rfl lbn)) sd_fs)
abbrev X_f0 : Type := TSo × TRr
abbrev R_f0 : Type := Bool
abbrev RR_f0 : Type := Bool × TRr
abbrev p_f0 (y : RR_f0) : TRr := y.2
abbrev w_f0 (x : X_f0) : TRr := x.2
def J_f0 : BT Tryz.prog :=
 Bg Tryz.prog Tryz.f99 74 [(3, 3)] [(9, [.back (.loc 30 0)]), (11, [.back (.loc 30 0)]), (13, [.back (.loc 30 0)])] [] [.back (.loc 30 0)] [.any] [sh_TRr] [] RR_f0 [(6, [⟨.loc 30 0, .par 0, [.Bk 0 0, .Bk 1 1], none, none⟩]), (12, [⟨.loc 30 0, .par 0, [.Bk 0 0, .Bk 1 1], none, none⟩])] fun y => [V.bool y.1, e_TRr y.2]
def S_f0 : AR :=
 Aq Tryz.f99 2 1 X_f0 (fun x => [(V.ptr (.par 0) []), e_TSo x.1, e_TRr x.2]) fun l => (d_TSo (at_ l 1), d_TRr (at_ l 2))
structure X_f0_5 where
 NG : TSo
 J8 : Int
 Cq : Bool
 Ad : TRr
def S_f0_5 : AR :=
 Ai Tryz.f99 5 (an [0, 3, 5, 6]) [sh_TRr] [] X_f0_5 (fun x => [(V.ptr (.par 0) []), (DO e_TSo) x.NG, (V.int .u64) x.J8, V.bool x.Cq, e_TRr x.Ad]) fun l => ⟨(DP d_TSo) (at_ l 1), dI (at_ l 2), dB (at_ l 3), d_TRr (at_ l 4)⟩
structure X_f0_6 where
 NG : TSo
 J8 : Int
 Cq : Bool
 Fc : Int
 Fb : Int
 Ad : TRr
def S_f0_6 : AR :=
 Ai Tryz.f99 6 (an [0, 3, 5, 6, 30, 31, 32]) [sh_TRr] [(.loc 30 0, .any)] X_f0_6 (fun x => [(V.ptr (.par 0) []), (DO e_TSo) x.NG, (V.int .u64) x.J8, V.bool x.Cq, (V.own (.loc 30 0) [] 1 x.Ad.AA.AD.n 0 x.Ad.AA.AD.n), (V.int .i64) x.Fc, (V.int .i64) x.Fb, V.cons (V.cons ((V.int .u64) x.Ad.AA.tail) (V.cons (V.Bq (.loc 30 0) 36 1 x.Ad.AA.AD.nil x.Ad.AA.AD.n) (V.unit))) (V.cons (ebox_TSs x.Ad.s) (V.cons ((V.int .u64) x.Ad.most) (V.cons (V.bool x.Ad.closed) (V.unit)))), (V.arr 1 x.Ad.AA.AD.n fun i => (V.int .u64) (x.Ad.AA.AD.get i))]) fun l => ⟨(DP d_TSo) (at_ l 1), dI (at_ l 2), dB (at_ l 3), dI (at_ l 5), dI (at_ l 6), { d_TRr (at_ l 7) with AA.AD := ⟨(Rg (fd (fd (at_ l 7) 0) 1)).nil, (Rg (fd (fd (at_ l 7) 0) 1)).n, (RN dI (at_ l 8)).get⟩ }⟩
structure X_f0_12 where
 NG : TSo
 J8 : Int
 Cq : Bool
 Fc : Int
 Fb : Int
 Ad : TRr
def S_f0_12 : AR :=
 Ai Tryz.f99 12 (an [0, 3, 5, 6, 30, 31, 32]) [sh_TRr] [(.loc 30 0, .any)] X_f0_12 (fun x => [(V.ptr (.par 0) []), (DO e_TSo) x.NG, (V.int .u64) x.J8, V.bool x.Cq, (V.own (.loc 30 0) [] 1 x.Ad.AA.AD.n 0 x.Ad.AA.AD.n), (V.int .i64) x.Fc, (V.int .i64) x.Fb, V.cons (V.cons ((V.int .u64) x.Ad.AA.tail) (V.cons (V.Bq (.loc 30 0) 36 1 x.Ad.AA.AD.nil x.Ad.AA.AD.n) (V.unit))) (V.cons (ebox_TSs x.Ad.s) (V.cons ((V.int .u64) x.Ad.most) (V.cons (V.bool x.Ad.closed) (V.unit)))), (V.arr 1 x.Ad.AA.AD.n fun i => (V.int .u64) (x.Ad.AA.AD.get i))]) fun l => ⟨(DP d_TSo) (at_ l 1), dI (at_ l 2), dB (at_ l 3), dI (at_ l 5), dI (at_ l 6), { d_TRr (at_ l 7) with AA.AD := ⟨(Rg (fd (fd (at_ l 7) 0) 1)).nil, (Rg (fd (fd (at_ l 7) 0) 1)).n, (RN dI (at_ l 8)).get⟩ }⟩
abbrev w_f0_5 (x : X_f0_5) : TRr := (x.Ad)
abbrev w_f0_6 (x : X_f0_6) : TRr := (x.Ad)
abbrev w_f0_12 (x : X_f0_12) : TRr := (x.Ad)
def tt_f0_12 (D_f0_6 : AS X_f0_6 RR_f0) (x : X_f0_12) : TT Tryz.prog RR_f0 :=
 (.Ab S_f0_6 D_f0_6 (X_f0_6.mk x.NG x.J8 x.Cq x.Fc (IntKind.i64.wrap (x.Fb + 1)) x.Ad))
theorem sd_f0_12 (D_f0_6 : AS X_f0_6 RR_f0) (x : X_f0_12) : (tt_f0_12 D_f0_6 x).AJ :=
 TT.sJ
theorem roT_f0_12 (D_f0_6 : AS X_f0_6 RR_f0) (r6 : ∀ x y, D_f0_6.rel x y → p_f0 y = w_f0_6 x) (x : X_f0_12) : TT.Ro p_f0 (w_f0_12 x) (tt_f0_12 D_f0_6 x) :=
 (TT.rJ (r6 _))
def D_f0_12 (D_f0_6 : AS X_f0_6 RR_f0) : AS X_f0_12 RR_f0 := .of (tt_f0_12 D_f0_6)
theorem ok_f0_12 (D_f0_6 : AS X_f0_6 RR_f0) (h_6 : AX J_f0 S_f0_6 D_f0_6) : AX J_f0 S_f0_12 (D_f0_12 D_f0_6) :=
 lk mxk (lbc h_6 rfl lbn) (sd_f0_12 D_f0_6)
theorem ro_f0_12 (D_f0_6 : AS X_f0_6 RR_f0) (r6 : ∀ x y, D_f0_6.rel x y → p_f0 y = w_f0_6 x) : ∀ x y, (D_f0_12 D_f0_6).rel x y → p_f0 y = w_f0_12 x :=
 roT_f0_12 D_f0_6 r6
def tt_f0_6 (D_f0_6 : AS X_f0_6 RR_f0) (x : X_f0_6) : TT Tryz.prog RR_f0 :=
 (.ite (B8 x.Fb x.Fc)
 (.need (BQ x.Fb x.Ad.AA.AD.n) <|
 (.need ((Nat.beq x.Ad.AA.AD.n x.Ad.AA.AD.n) && true) <|
 (.ite x.Cq
 (.need (B6 0 x.Fb) <|
 (.ite (Ae (Vm.bits .and IntKind.i64 (shr IntKind.i64 x.NG.Left x.Fb) 1) 0)
 (.ite (B6 (x.Ad.AA.AD.get ((0 : Nat) + (Int.toNat x.Fb))) x.J8)
 (.need ((true && true) && (Nat.beq x.Ad.AA.AD.n x.Ad.AA.AD.n)) <|
 (.ret (false, x.Ad)))
 (.ite (!x.Cq)
 (.ite (B6 x.Ad.most x.J8)
 (.ite (B6 (x.Ad.AA.AD.get ((0 : Nat) + (Int.toNat x.Fb))) (IntKind.u64.wrap (x.J8 - x.Ad.most)))
 (.need ((true && true) && (Nat.beq x.Ad.AA.AD.n x.Ad.AA.AD.n)) <|
 (.ret (false, x.Ad)))
 (.Ab S_f0_12 (D_f0_12 D_f0_6) (X_f0_12.mk x.NG x.J8 x.Cq x.Fc x.Fb x.Ad)))
 (.Ab S_f0_12 (D_f0_12 D_f0_6) (X_f0_12.mk x.NG x.J8 x.Cq x.Fc x.Fb x.Ad)))
 (.Ab S_f0_12 (D_f0_12 D_f0_6) (X_f0_12.mk x.NG x.J8 x.Cq x.Fc x.Fb x.Ad))))
 (.ite (!x.Cq)
 (.ite (B6 x.Ad.most x.J8)
 (.ite (B6 (x.Ad.AA.AD.get ((0 : Nat) + (Int.toNat x.Fb))) (IntKind.u64.wrap (x.J8 - x.Ad.most)))
 (.need ((true && true) && (Nat.beq x.Ad.AA.AD.n x.Ad.AA.AD.n)) <|
 (.ret (false, x.Ad)))
 (.Ab S_f0_12 (D_f0_12 D_f0_6) (X_f0_12.mk x.NG x.J8 x.Cq x.Fc x.Fb x.Ad)))
 (.Ab S_f0_12 (D_f0_12 D_f0_6) (X_f0_12.mk x.NG x.J8 x.Cq x.Fc x.Fb x.Ad)))
 (.Ab S_f0_12 (D_f0_12 D_f0_6) (X_f0_12.mk x.NG x.J8 x.Cq x.Fc x.Fb x.Ad)))))
 (.ite (!x.Cq)
 (.ite (B6 x.Ad.most x.J8)
 (.ite (B6 (x.Ad.AA.AD.get ((0 : Nat) + (Int.toNat x.Fb))) (IntKind.u64.wrap (x.J8 - x.Ad.most)))
 (.need ((true && true) && (Nat.beq x.Ad.AA.AD.n x.Ad.AA.AD.n)) <|
 (.ret (false, x.Ad)))
 (.Ab S_f0_12 (D_f0_12 D_f0_6) (X_f0_12.mk x.NG x.J8 x.Cq x.Fc x.Fb x.Ad)))
 (.Ab S_f0_12 (D_f0_12 D_f0_6) (X_f0_12.mk x.NG x.J8 x.Cq x.Fc x.Fb x.Ad)))
 (.Ab S_f0_12 (D_f0_12 D_f0_6) (X_f0_12.mk x.NG x.J8 x.Cq x.Fc x.Fb x.Ad))))))
 (.need ((true && true) && (Nat.beq x.Ad.AA.AD.n x.Ad.AA.AD.n)) <|
 (.ret (true, x.Ad))))
theorem sd_f0_6 (D_f0_6 : AS X_f0_6 RR_f0) (x : X_f0_6) : (tt_f0_6 D_f0_6 x).AJ :=
 (TT.sI (TT.sN (TT.sN (TT.sI (TT.sN (TT.sI (TT.sI (TT.sN TT.sR) (TT.sI (TT.sI (TT.sI (TT.sN TT.sR) TT.sJ) TT.sJ) TT.sJ)) (TT.sI (TT.sI (TT.sI (TT.sN TT.sR) TT.sJ) TT.sJ) TT.sJ))) (TT.sI (TT.sI (TT.sI (TT.sN TT.sR) TT.sJ) TT.sJ) TT.sJ)))) (TT.sN TT.sR))
theorem roT_f0_6 (D_f0_6 : AS X_f0_6 RR_f0) (r6 : ∀ x y, D_f0_6.rel x y → p_f0 y = w_f0_6 x) (x : X_f0_6) : TT.Ro p_f0 (w_f0_6 x) (tt_f0_6 D_f0_6 x) :=
 (TT.rI (TT.rN (TT.rN (TT.rI (TT.rN (TT.rI (TT.rI (TT.rN (TT.rR rfl)) (TT.rI (TT.rI (TT.rI (TT.rN (TT.rR rfl)) (TT.rJ (ro_f0_12 D_f0_6 r6 _))) (TT.rJ (ro_f0_12 D_f0_6 r6 _))) (TT.rJ (ro_f0_12 D_f0_6 r6 _)))) (TT.rI (TT.rI (TT.rI (TT.rN (TT.rR rfl)) (TT.rJ (ro_f0_12 D_f0_6 r6 _))) (TT.rJ (ro_f0_12 D_f0_6 r6 _))) (TT.rJ (ro_f0_12 D_f0_6 r6 _))))) (TT.rI (TT.rI (TT.rI (TT.rN (TT.rR rfl)) (TT.rJ (ro_f0_12 D_f0_6 r6 _))) (TT.rJ (ro_f0_12 D_f0_6 r6 _))) (TT.rJ (ro_f0_12 D_f0_6 r6 _)))))) (TT.rN (TT.rR rfl)))
def D_f0_6 : AS X_f0_6 RR_f0 := AS.loop tt_f0_6
theorem ok_f0_6 : AX J_f0 S_f0_6 D_f0_6 :=
 BG fun D_f0_6 h_6 => lk mxk (lbc h_6 rfl (lbc (ok_f0_12 D_f0_6 h_6) rfl lbn)) (sd_f0_6 D_f0_6)
theorem ro_f0_6 : ∀ x y, D_f0_6.rel x y → p_f0 y = w_f0_6 x :=
 Js fun D_f0_6 r6 => roT_f0_6 D_f0_6 r6
def tt_f0_5 (x : X_f0_5) : TT Tryz.prog RR_f0 :=
 (.Ab S_f0_6 D_f0_6 (X_f0_6.mk x.NG x.J8 x.Cq ((x.Ad.AA.AD.n : Nat) : Int) 0 x.Ad))
theorem sd_f0_5 (x : X_f0_5) : (tt_f0_5 x).AJ :=
 TT.sJ
theorem roT_f0_5 (x : X_f0_5) : TT.Ro p_f0 (w_f0_5 x) (tt_f0_5 x) :=
 (TT.rJ (ro_f0_6 _))
def D_f0_5 : AS X_f0_5 RR_f0 := .of tt_f0_5
theorem ok_f0_5 : AX J_f0 S_f0_5 D_f0_5 :=
 lk mxk (lbc ok_f0_6 rfl lbn) sd_f0_5
theorem ro_f0_5 : ∀ x y, D_f0_5.rel x y → p_f0 y = w_f0_5 x :=
 roT_f0_5 
def tt_f0 (x : X_f0) : TT Tryz.prog RR_f0 :=
 (.ite (Ae (Int.tmod x.fst.AQ 2) 1)
 (.ite (B6 x.snd.AA.tail (IntKind.u64.wrap (Int.tdiv x.fst.AQ 2)))
 (.ret (false, x.snd))
 (.Ab S_f0_5 D_f0_5 (X_f0_5.mk x.fst (IntKind.u64.wrap (Int.tdiv x.fst.AQ 2)) (Ae (Int.tmod x.fst.AQ 2) 1) x.snd)))
 (.Ab S_f0_5 D_f0_5 (X_f0_5.mk x.fst (IntKind.u64.wrap (Int.tdiv x.fst.AQ 2)) (Ae (Int.tmod x.fst.AQ 2) 1) x.snd)))
theorem sd_f0 (x : X_f0) : (tt_f0 x).AJ :=
 (TT.sI (TT.sI TT.sR TT.sJ) TT.sJ)
theorem roT_f0 (x : X_f0) : TT.Ro p_f0 (w_f0 x) (tt_f0 x) :=
 (TT.rI (TT.rI (TT.rR rfl) (TT.rJ (ro_f0_5 _))) (TT.rJ (ro_f0_5 _)))
def D_f0 : AS X_f0 R_f0 := .ro (.of tt_f0) (fun y => (y.1)) (fun y x => (y, x.2)) fun x y h => congrArg (fun o => (y.1, o)) (roT_f0 x y h)
def con_f0 : BN Tryz.prog :=
 DC 99 J_f0 S_f0 (.of tt_f0) D_f0 (fun y x => (y, x.2)) (fun y => V.bool y) 2 1 [.any, .any] (lk mxk (lbc ok_f0_6 rfl (lbc ok_f0_5 rfl lbn)) sd_f0) (fun x => ⟨(nu_e_TRr : ∀ y, (e_TRr y).Cd) (x.2), trivial⟩)
abbrev X_f1n : Type := (Sl Int)
abbrev R_f1n : Type := (Sl Int)
def J_f1n : BT Tryz.prog :=
 Bg Tryz.prog Tryz.f47 8 [(5, 1), (6, 1)] [] [] [.Eg 2] [N6] [] [] R_f1n [] fun y => [Kr y]
def S_f1n : AR :=
 Aq Tryz.f47 1 0 X_f1n (fun x => [BL x]) fun l => (Bi (at_ l 0))
def tt_f1n (x : X_f1n) : TT Tryz.prog R_f1n :=
 (.ite x.nil
 (.ret (Sl.mk true 0 (fun _i1 => (0 : Int))))
 (.need (true && (room ((0 : Nat) + x.n) 8)) <|
 (.ret (Sl.mk (cond (Nat.beq x.n 0) false false) ((0 : Nat) + x.n) (fun i1 => (cond (Nat.blt i1 0) (0 : Int) (x.get (i1 - 0))))))))
theorem sd_f1n (x : X_f1n) : (tt_f1n x).AJ :=
 (TT.sI TT.sR (TT.sN TT.sR))
def D_f1n : AS X_f1n R_f1n := .of tt_f1n
def con_f1n : BN Tryz.prog :=
 CY 47 J_f1n S_f1n D_f1n 1 0 [BU] (lk mxk lbn sd_f1n)
abbrev X_f9 : Type := TRg × TRs
abbrev R_f9 : Type := (Bx TRr) × Int
def J_f9 : BT Tryz.prog :=
 Bg Tryz.prog Tryz.f57 113 [(2, 3), (3, 3), (13, 1), (21, 1), (57, 1), (112, 1)] [(7, [.open_ 6]), (12, [.close (.loc 72 0)]), (14, [.close (.loc 72 0)]), (15, [.close (.loc 72 0)]), (16, [.close (.loc 72 0)]), (17, [.close (.loc 72 0)]), (18, [.close (.loc 72 0)]), (19, [.close (.loc 72 0)]), (20, [.close (.loc 72 0)])] [] [.close (.loc 72 0), .Eg 4] [hbox_TRr, .any] [] [con_f29, con_f0, con_f1n, con_fs] R_f9 [(9, [⟨.loc 72 0, .loc 6 1, [.Bk 0 0, .Bk 1 1], none, none⟩]), (13, [⟨.loc 72 0, .loc 6 1, [.Bk 0 0, .Bk 1 1], none, none⟩])] fun y => [V.CR (V.cons (ebox_TRr y.1) (V.cons ((V.int .i64) y.2) (V.unit)))]
def S_f9 : AR :=
 Aq Tryz.f57 2 0 X_f9 (fun x => [e_TRg x.1, e_TRs x.2]) fun l => (d_TRg (at_ l 0), d_TRs (at_ l 1))
structure X_f9_7 where
 Eh : TRs
 l_8 : (Bx TSs)
 BO : TRr
def S_f9_7 : AR :=
 Ai Tryz.f57 7 [(3, .any), (6, .any), (8, hbox_TSs)] [] [(.loc 6 1, sh_TRr)] X_f9_7 (fun x => [(DO e_TRs) x.Eh, (V.ptr (.loc 6 1) []), ebox_TSs x.l_8, e_TRr x.BO]) fun l => ⟨(DP d_TRs) (at_ l 0), dbox_TSs (at_ l 2), d_TRr (at_ l 3)⟩
structure X_f9_9 where
 Eh : TRs
 Qd : Int
 MU : Int
 BO : TRr
def S_f9_9 : AR :=
 Ai Tryz.f57 9 (an [3, 6, 72, 73, 74]) [] [(.loc 6 1, sh_TRr), (.loc 72 0, .any)] X_f9_9 (fun x => [(DO e_TRs) x.Eh, (V.ptr (.loc 6 1) []), (V.own (.loc 72 0) [] 1 x.BO.AA.AD.n 0 x.BO.AA.AD.n), (V.int .i64) x.Qd, (V.int .i64) x.MU, V.cons (V.cons ((V.int .u64) x.BO.AA.tail) (V.cons (V.Bq (.loc 72 0) 36 1 x.BO.AA.AD.nil x.BO.AA.AD.n) (V.unit))) (V.cons (ebox_TSs x.BO.s) (V.cons ((V.int .u64) x.BO.most) (V.cons (V.bool x.BO.closed) (V.unit)))), (V.arr 1 x.BO.AA.AD.n fun i => (V.int .u64) (x.BO.AA.AD.get i))]) fun l => ⟨(DP d_TRs) (at_ l 0), dI (at_ l 3), dI (at_ l 4), { d_TRr (at_ l 5) with AA.AD := ⟨(Rg (fd (fd (at_ l 5) 0) 1)).nil, (Rg (fd (fd (at_ l 5) 0) 1)).n, (RN dI (at_ l 6)).get⟩ }⟩
structure X_f9_13 where
 Eh : TRs
 Qd : Int
 MU : Int
 BO : TRr
def S_f9_13 : AR :=
 Ai Tryz.f57 13 (an [3, 6, 72, 73, 74]) [] [(.loc 6 1, sh_TRr), (.loc 72 0, .any)] X_f9_13 (fun x => [(DO e_TRs) x.Eh, (V.ptr (.loc 6 1) []), (V.own (.loc 72 0) [] 1 x.BO.AA.AD.n 0 x.BO.AA.AD.n), (V.int .i64) x.Qd, (V.int .i64) x.MU, V.cons (V.cons ((V.int .u64) x.BO.AA.tail) (V.cons (V.Bq (.loc 72 0) 36 1 x.BO.AA.AD.nil x.BO.AA.AD.n) (V.unit))) (V.cons (ebox_TSs x.BO.s) (V.cons ((V.int .u64) x.BO.most) (V.cons (V.bool x.BO.closed) (V.unit)))), (V.arr 1 x.BO.AA.AD.n fun i => (V.int .u64) (x.BO.AA.AD.get i))]) fun l => ⟨(DP d_TRs) (at_ l 0), dI (at_ l 3), dI (at_ l 4), { d_TRr (at_ l 5) with AA.AD := ⟨(Rg (fd (fd (at_ l 5) 0) 1)).nil, (Rg (fd (fd (at_ l 5) 0) 1)).n, (RN dI (at_ l 6)).get⟩ }⟩
structure X_f9_14 where
 Eh : TRs
 BO : TRr
def S_f9_14 : AR :=
 Ai Tryz.f57 14 (an [3, 6]) [] [(.loc 6 1, sh_TRr)] X_f9_14 (fun x => [(DO e_TRs) x.Eh, (V.ptr (.loc 6 1) []), e_TRr x.BO]) fun l => ⟨(DP d_TRs) (at_ l 0), d_TRr (at_ l 2)⟩
structure X_f9_15 where
 Pr : (Sl TSo)
 R7 : Int
 Ni : Int
 BO : TRr
def S_f9_15 : AR :=
 Ai Tryz.f57 15 [(6, .any), (101, hsl_TSo), (102, .any), (103, .any)] [] [(.loc 6 1, sh_TRr)] X_f9_15 (fun x => [(V.ptr (.loc 6 1) []), esl_TSo x.Pr, (V.int .i64) x.R7, (V.int .i64) x.Ni, e_TRr x.BO]) fun l => ⟨dsl_TSo (at_ l 1), dI (at_ l 2), dI (at_ l 3), d_TRr (at_ l 4)⟩
def tt_f9_15 (D_f9_15 : AS X_f9_15 R_f9) (x : X_f9_15) : TT Tryz.prog R_f9 :=
 (.ite (B8 x.Ni x.R7)
 (.need (BQ x.Ni x.Pr.n) <|
 (.call con_f0 ((x.Pr.get (Int.toNat x.Ni)), x.BO) fun (y2 : R_f0) =>
 (.ite (!y2)
 (.ret ((Bx.mk true (TRr.mk (TRc.mk 0 (Sl.mk true 0 (fun _i3 => (0 : Int)))) (Bx.mk true (TSs.mk (Sl.mk true 0 (fun _i3 => (TSo.mk 0 0 0))) 0)) 0 false)), 3))
 (.Ab S_f9_15 D_f9_15 (X_f9_15.mk x.Pr x.R7 (IntKind.i64.wrap (x.Ni + 1)) x.BO)))))
 (.ret ((Bx.mk false x.BO), 0)))
theorem sd_f9_15 (D_f9_15 : AS X_f9_15 R_f9) (x : X_f9_15) : (tt_f9_15 D_f9_15 x).AJ :=
 (TT.sI (TT.sN (TT.sC fun _ => (TT.sI TT.sR TT.sJ))) TT.sR)
def D_f9_15 : AS X_f9_15 R_f9 := AS.loop tt_f9_15
theorem ok_f9_15 : AX J_f9 S_f9_15 D_f9_15 :=
 BG fun D_f9_15 h_15 => lk mxk (lbc h_15 rfl lbn) (sd_f9_15 D_f9_15)
def tt_f9_14 (x : X_f9_14) : TT Tryz.prog R_f9 :=
 (.Ab S_f9_15 D_f9_15 (X_f9_15.mk x.Eh.A4 ((x.Eh.A4.n : Nat) : Int) 0 x.BO))
theorem sd_f9_14 (x : X_f9_14) : (tt_f9_14 x).AJ :=
 TT.sJ
def D_f9_14 : AS X_f9_14 R_f9 := .of tt_f9_14
theorem ok_f9_14 : AX J_f9 S_f9_14 D_f9_14 :=
 lk mxk (lbc ok_f9_15 rfl lbn) sd_f9_14
def tt_f9_13 (D_f9_9 : AS X_f9_9 R_f9) (x : X_f9_13) : TT Tryz.prog R_f9 :=
 (.Ab S_f9_9 D_f9_9 (X_f9_9.mk x.Eh x.Qd (IntKind.i64.wrap (x.MU + 1)) x.BO))
theorem sd_f9_13 (D_f9_9 : AS X_f9_9 R_f9) (x : X_f9_13) : (tt_f9_13 D_f9_9 x).AJ :=
 TT.sJ
def D_f9_13 (D_f9_9 : AS X_f9_9 R_f9) : AS X_f9_13 R_f9 := .of (tt_f9_13 D_f9_9)
theorem ok_f9_13 (D_f9_9 : AS X_f9_9 R_f9) (h_9 : AX J_f9 S_f9_9 D_f9_9) : AX J_f9 S_f9_13 (D_f9_13 D_f9_9) :=
 lk mxk (lbc h_9 rfl (lbc ok_f9_15 rfl (lbc ok_f9_14 rfl lbn))) (sd_f9_13 D_f9_9)
def tt_f9_9 (D_f9_9 : AS X_f9_9 R_f9) (x : X_f9_9) : TT Tryz.prog R_f9 :=
 (.ite (B8 x.MU x.Qd)
 (.need (BQ x.MU x.BO.AA.AD.n) <|
 (.need ((Nat.beq x.BO.AA.AD.n x.BO.AA.AD.n) && true) <|
 (.ite (B8 x.BO.AA.tail (x.BO.AA.AD.get ((0 : Nat) + (Int.toNat x.MU))))
 (.need ((true && true) && (Nat.beq x.BO.AA.AD.n x.BO.AA.AD.n)) <|
 (.ret ((Bx.mk true (TRr.mk (TRc.mk 0 (Sl.mk true 0 (fun _i2 => (0 : Int)))) (Bx.mk true (TSs.mk (Sl.mk true 0 (fun _i2 => (TSo.mk 0 0 0))) 0)) 0 false)), 3)))
 (.ite (B8 x.BO.most (IntKind.u64.wrap (x.BO.AA.tail - (x.BO.AA.AD.get ((0 : Nat) + (Int.toNat x.MU))))))
 (.need ((true && true) && (Nat.beq x.BO.AA.AD.n x.BO.AA.AD.n)) <|
 (.ret ((Bx.mk true (TRr.mk (TRc.mk 0 (Sl.mk true 0 (fun _i2 => (0 : Int)))) (Bx.mk true (TSs.mk (Sl.mk true 0 (fun _i2 => (TSo.mk 0 0 0))) 0)) 0 false)), 3)))
 (.Ab S_f9_13 (D_f9_13 D_f9_9) (X_f9_13.mk x.Eh x.Qd x.MU x.BO))))))
 (.need ((true && true) && (Nat.beq x.BO.AA.AD.n x.BO.AA.AD.n)) <|
 (.Ab S_f9_14 D_f9_14 (X_f9_14.mk x.Eh x.BO))))
theorem sd_f9_9 (D_f9_9 : AS X_f9_9 R_f9) (x : X_f9_9) : (tt_f9_9 D_f9_9 x).AJ :=
 (TT.sI (TT.sN (TT.sN (TT.sI (TT.sN TT.sR) (TT.sI (TT.sN TT.sR) TT.sJ)))) (TT.sN TT.sJ))
def D_f9_9 : AS X_f9_9 R_f9 := AS.loop tt_f9_9
theorem ok_f9_9 : AX J_f9 S_f9_9 D_f9_9 :=
 BG fun D_f9_9 h_9 => lk mxk (lbc h_9 rfl (lbc ok_f9_15 rfl (lbc ok_f9_14 rfl (lbc (ok_f9_13 D_f9_9 h_9) rfl lbn)))) (sd_f9_9 D_f9_9)
def tt_f9_7 (x : X_f9_7) : TT Tryz.prog R_f9 :=
 (.call con_f1n x.Eh.Aj fun (y1 : R_f1n) =>
 (.Ab S_f9_9 D_f9_9 (X_f9_9.mk x.Eh ((y1.n : Nat) : Int) 0 (TRr.mk (TRc.mk x.Eh.A6 y1) x.l_8 x.BO.most x.Eh.Bj))))
theorem sd_f9_7 (x : X_f9_7) : (tt_f9_7 x).AJ :=
 (TT.sC fun _ => TT.sJ)
def D_f9_7 : AS X_f9_7 R_f9 := .of tt_f9_7
theorem ok_f9_7 : AX J_f9 S_f9_7 D_f9_7 :=
 lk mxk (lbc ok_f9_15 rfl (lbc ok_f9_14 rfl (lbc ok_f9_9 rfl lbn))) sd_f9_7
def tt_f9 (x : X_f9) : TT Tryz.prog R_f9 :=
 (.call con_f29 x.fst fun (y1 : R_f29) =>
 (.ite (!(Ae y1.snd 0))
 (.ret ((Bx.mk true (TRr.mk (TRc.mk 0 (Sl.mk true 0 (fun _i2 => (0 : Int)))) (Bx.mk true (TSs.mk (Sl.mk true 0 (fun _i2 => (TSo.mk 0 0 0))) 0)) 0 false)), y1.snd))
 (.call con_fs (x.fst.Ee, (x.fst.Aa, x.snd.A4)) fun (y2 : R_fs) =>
 (.ite (!(Ae y2.snd 0))
 (.ret ((Bx.mk true (TRr.mk (TRc.mk 0 (Sl.mk true 0 (fun _i3 => (0 : Int)))) (Bx.mk true (TSs.mk (Sl.mk true 0 (fun _i3 => (TSo.mk 0 0 0))) 0)) 0 false)), 3))
 (.ite (!(Ae ((x.snd.Aj.n : Nat) : Int) x.fst.Aa))
 (.ret ((Bx.mk true (TRr.mk (TRc.mk 0 (Sl.mk true 0 (fun _i3 => (0 : Int)))) (Bx.mk true (TSs.mk (Sl.mk true 0 (fun _i3 => (TSo.mk 0 0 0))) 0)) 0 false)), 3))
 (.ite (B6 4611686018427387904 x.snd.A6)
 (.ret ((Bx.mk true (TRr.mk (TRc.mk 0 (Sl.mk true 0 (fun _i3 => (0 : Int)))) (Bx.mk true (TSs.mk (Sl.mk true 0 (fun _i3 => (TSo.mk 0 0 0))) 0)) 0 false)), 3))
 (.need (!y1.fst.nil) <|
 (.Ab S_f9_7 D_f9_7 (X_f9_7.mk x.snd y2.fst y1.fst.x)))))))))
theorem sd_f9 (x : X_f9) : (tt_f9 x).AJ :=
 (TT.sC fun _ => (TT.sI TT.sR (TT.sC fun _ => (TT.sI TT.sR (TT.sI TT.sR (TT.sI TT.sR (TT.sN TT.sJ)))))))
def D_f9 : AS X_f9 R_f9 := .of tt_f9
def con_f9 : BN Tryz.prog :=
 CY 57 J_f9 S_f9 D_f9 2 0 [.any, sh_TRs] (lk mxk (lbc ok_f9_15 rfl (lbc ok_f9_14 rfl (lbc ok_f9_9 rfl (lbc ok_f9_7 rfl lbn)))) sd_f9)
abbrev X_fe : Type := Int × TFa
abbrev R_fe : Type := (Bx TRr)
abbrev RR_fe : Type := (Bx TRr) × TFa
abbrev p_fe (y : RR_fe) : TFa := y.2
abbrev w_fe (x : X_fe) : TFa := x.2
def J_fe : BT Tryz.prog :=
 Bg Tryz.prog Tryz.f80 43 [(22, 1), (42, 1)] [(2, [.back (.loc 18 0)]), (3, [.back (.loc 18 0)]), (4, [.back (.loc 37 0), .back (.loc 34 0), .back (.loc 18 0)])] [(3, [.HR (.par 0) [.Bk 2 3] 34])] [.back (.loc 37 0), .back (.loc 34 0), .back (.loc 18 0), .Eg 4] [hbox_TRr] [sh_TFa] [con_f9, con_f1d] RR_fe [(0, [⟨.loc 34 0, .par 0, [.Bk 2 3], none, none⟩]), (3, [⟨.loc 34 0, .par 0, [.Bk 2 3], none, none⟩])] fun y => [ebox_TRr y.1, e_TFa y.2]
def S_fe : AR :=
 Aq Tryz.f80 2 1 X_fe (fun x => [(V.ptr (.par 0) []), (V.int .i64) x.1, e_TFa x.2]) fun l => (dI (at_ l 1), d_TFa (at_ l 2))
structure X_fe_3 where
 Fm : Int
 Ad : TFa
def S_fe_3 : AR :=
 Ai Tryz.f80 3 (an [0, 1]) [sh_TFa] [] X_fe_3 (fun x => [(V.ptr (.par 0) []), (V.int .i64) x.Fm, e_TFa x.Ad]) fun l => ⟨dI (at_ l 1), d_TFa (at_ l 2)⟩
abbrev w_fe_3 (x : X_fe_3) : TFa := (x.Ad)
def tt_fe_3 (x : X_fe_3) : TT Tryz.prog RR_fe :=
 (.need (BQ x.Fm x.Ad.p.AF.n) <|
 (.need (BQ x.Fm x.Ad.rings.n) <|
 (.need (((Nat.beq x.Ad.rings.n x.Ad.rings.n) && true) && (!(x.Ad.rings.get ((0 : Nat) + (Int.toNat x.Fm))).nil)) <|
 (.call con_f1d (x.Ad.rings.get ((0 : Nat) + (Int.toNat x.Fm))).x fun (y1 : R_f1d) =>
 (.call con_f9 ((x.Ad.p.AF.get (Int.toNat x.Fm)), y1) fun (y2 : R_f9) =>
 (.need ((true && true) && (((Nat.beq x.Ad.rings.n x.Ad.rings.n) && (Nat.blt ((0 : Nat) + (Int.toNat x.Fm)) x.Ad.rings.n)) && (!(x.Ad.rings.get ((0 : Nat) + (Int.toNat x.Fm))).nil))) <|
 (.side (((fun v : Nat → V => v = v) (fun i3 => (cond (Nat.beq i3 ((0 : Nat) + (Int.toNat x.Fm))) (V.ptr (Id.loc 37 0) List.nil) (V.Af (x.Ad.rings.get i3).nil (V.cons (V.cons (V.int IntKind.u64 (x.Ad.rings.get i3).x.AA.tail) (V.cons (V.A0 36 1 (x.Ad.rings.get i3).x.AA.AD.nil (x.Ad.rings.get i3).x.AA.AD.n (fun i4 => (V.int IntKind.u64 ((x.Ad.rings.get i3).x.AA.AD.get i4)))) V.unit)) (V.cons (V.Af (x.Ad.rings.get i3).x.s.nil (V.cons (V.A0 175 3 (x.Ad.rings.get i3).x.s.x.l.nil (x.Ad.rings.get i3).x.s.x.l.n (fun i4 => (V.cons (V.int IntKind.u64 ((x.Ad.rings.get i3).x.s.x.l.get i4).AQ) (V.cons (V.int IntKind.u64 ((x.Ad.rings.get i3).x.s.x.l.get i4).Value) (V.cons (V.int IntKind.i64 ((x.Ad.rings.get i3).x.s.x.l.get i4).Left) V.unit))))) (V.cons (V.int IntKind.i64 (x.Ad.rings.get i3).x.s.x.AO) V.unit))) (V.cons (V.int IntKind.u64 (x.Ad.rings.get i3).x.most) (V.cons (V.bool (x.Ad.rings.get i3).x.closed) V.unit)))))))) ∧ (((fun v : V => v = v) (V.cons (V.cons (V.int IntKind.u64 (x.Ad.rings.get ((0 : Nat) + (Int.toNat x.Fm))).x.AA.tail) (V.cons (V.A0 36 1 (x.Ad.rings.get ((0 : Nat) + (Int.toNat x.Fm))).x.AA.AD.nil (x.Ad.rings.get ((0 : Nat) + (Int.toNat x.Fm))).x.AA.AD.n (fun i3 => (V.int IntKind.u64 ((x.Ad.rings.get ((0 : Nat) + (Int.toNat x.Fm))).x.AA.AD.get i3)))) V.unit)) (V.cons (V.Af (x.Ad.rings.get ((0 : Nat) + (Int.toNat x.Fm))).x.s.nil (V.cons (V.A0 175 3 (x.Ad.rings.get ((0 : Nat) + (Int.toNat x.Fm))).x.s.x.l.nil (x.Ad.rings.get ((0 : Nat) + (Int.toNat x.Fm))).x.s.x.l.n (fun i3 => (V.cons (V.int IntKind.u64 ((x.Ad.rings.get ((0 : Nat) + (Int.toNat x.Fm))).x.s.x.l.get i3).AQ) (V.cons (V.int IntKind.u64 ((x.Ad.rings.get ((0 : Nat) + (Int.toNat x.Fm))).x.s.x.l.get i3).Value) (V.cons (V.int IntKind.i64 ((x.Ad.rings.get ((0 : Nat) + (Int.toNat x.Fm))).x.s.x.l.get i3).Left) V.unit))))) (V.cons (V.int IntKind.i64 (x.Ad.rings.get ((0 : Nat) + (Int.toNat x.Fm))).x.s.x.AO) V.unit))) (V.cons (V.int IntKind.u64 (x.Ad.rings.get ((0 : Nat) + (Int.toNat x.Fm))).x.most) (V.cons (V.bool (x.Ad.rings.get ((0 : Nat) + (Int.toNat x.Fm))).x.closed) V.unit))))) ∧ ((fun v : V => v = v) (V.Af (x.Ad.rings.get ((0 : Nat) + (Int.toNat x.Fm))).nil (V.cons (V.cons (V.int IntKind.u64 (x.Ad.rings.get ((0 : Nat) + (Int.toNat x.Fm))).x.AA.tail) (V.cons (V.A0 36 1 (x.Ad.rings.get ((0 : Nat) + (Int.toNat x.Fm))).x.AA.AD.nil (x.Ad.rings.get ((0 : Nat) + (Int.toNat x.Fm))).x.AA.AD.n (fun i3 => (V.int IntKind.u64 ((x.Ad.rings.get ((0 : Nat) + (Int.toNat x.Fm))).x.AA.AD.get i3)))) V.unit)) (V.cons (V.Af (x.Ad.rings.get ((0 : Nat) + (Int.toNat x.Fm))).x.s.nil (V.cons (V.A0 175 3 (x.Ad.rings.get ((0 : Nat) + (Int.toNat x.Fm))).x.s.x.l.nil (x.Ad.rings.get ((0 : Nat) + (Int.toNat x.Fm))).x.s.x.l.n (fun i3 => (V.cons (V.int IntKind.u64 ((x.Ad.rings.get ((0 : Nat) + (Int.toNat x.Fm))).x.s.x.l.get i3).AQ) (V.cons (V.int IntKind.u64 ((x.Ad.rings.get ((0 : Nat) + (Int.toNat x.Fm))).x.s.x.l.get i3).Value) (V.cons (V.int IntKind.i64 ((x.Ad.rings.get ((0 : Nat) + (Int.toNat x.Fm))).x.s.x.l.get i3).Left) V.unit))))) (V.cons (V.int IntKind.i64 (x.Ad.rings.get ((0 : Nat) + (Int.toNat x.Fm))).x.s.x.AO) V.unit))) (V.cons (V.int IntKind.u64 (x.Ad.rings.get ((0 : Nat) + (Int.toNat x.Fm))).x.most) (V.cons (V.bool (x.Ad.rings.get ((0 : Nat) + (Int.toNat x.Fm))).x.closed) V.unit)))))))) <|
 (.need ((true && true) && (Nat.beq x.Ad.rings.n x.Ad.rings.n)) <|
 (.ret (y2.fst, x.Ad))))))))))
theorem sd_fe_3 (x : X_fe_3) : (tt_fe_3 x).AJ :=
 (TT.sN (TT.sN (TT.sN (TT.sC fun _ => (TT.sC fun _ => (TT.sN (TT.sS ⟨rfl, ⟨rfl, rfl⟩⟩ (TT.sN TT.sR))))))))
theorem roT_fe_3 (x : X_fe_3) : TT.Ro p_fe (w_fe_3 x) (tt_fe_3 x) :=
 (TT.rN (TT.rN (TT.rN (TT.rC fun _ => (TT.rC fun _ => (TT.rN (TT.rS (TT.rN (TT.rR rfl)))))))))
def D_fe_3 : AS X_fe_3 RR_fe := .of tt_fe_3
theorem ok_fe_3 : AX J_fe S_fe_3 D_fe_3 :=
 lk mxk lbn sd_fe_3
theorem ro_fe_3 : ∀ x y, D_fe_3.rel x y → p_fe y = w_fe_3 x :=
 roT_fe_3 
def tt_fe (x : X_fe) : TT Tryz.prog RR_fe :=
 (.ite (B8 x.fst 0)
 (.ret ((Bx.mk true (TRr.mk (TRc.mk 0 (Sl.mk true 0 (fun _i1 => (0 : Int)))) (Bx.mk true (TSs.mk (Sl.mk true 0 (fun _i1 => (TSo.mk 0 0 0))) 0)) 0 false)), x.snd))
 (.ite (B6 ((x.snd.rings.n : Nat) : Int) x.fst)
 (.need ((true && true) && (Nat.beq x.snd.rings.n x.snd.rings.n)) <|
 (.ret ((Bx.mk true (TRr.mk (TRc.mk 0 (Sl.mk true 0 (fun _i1 => (0 : Int)))) (Bx.mk true (TSs.mk (Sl.mk true 0 (fun _i1 => (TSo.mk 0 0 0))) 0)) 0 false)), x.snd)))
 (.need ((true && true) && (Nat.beq x.snd.rings.n x.snd.rings.n)) <|
 (.Ab S_fe_3 D_fe_3 (X_fe_3.mk x.fst x.snd)))))
theorem sd_fe (x : X_fe) : (tt_fe x).AJ :=
 (TT.sI TT.sR (TT.sI (TT.sN TT.sR) (TT.sN TT.sJ)))
theorem roT_fe (x : X_fe) : TT.Ro p_fe (w_fe x) (tt_fe x) :=
 (TT.rI (TT.rR rfl) (TT.rI (TT.rN (TT.rR rfl)) (TT.rN (TT.rJ (ro_fe_3 _)))))
def D_fe : AS X_fe R_fe := .ro (.of tt_fe) (fun y => (y.1)) (fun y x => (y, x.2)) fun x y h => congrArg (fun o => (y.1, o)) (roT_fe x y h)
def con_fe : BN Tryz.prog :=
 DC 80 J_fe S_fe (.of tt_fe) D_fe (fun y x => (y, x.2)) (fun y => ebox_TRr y) 2 1 [.any, .any] (lk mxk (lbc ok_fe_3 rfl lbn) sd_fe) (fun x => ⟨(nu_e_TFa : ∀ y, (e_TFa y).Cd) (x.2), trivial⟩)
abbrev X_ft : Type := Int × TRc
abbrev R_ft : Type := Bool
abbrev RR_ft : Type := Bool × TRc
abbrev p_ft (y : RR_ft) : TRc := y.2
abbrev w_ft (x : X_ft) : TRc := x.2
def J_ft : BT Tryz.prog :=
 Bg Tryz.prog Tryz.f154 16 [] [] [] [.back (.loc 12 0)] [.any] [sh_TRc] [] RR_ft [] fun y => [V.bool y.1, e_TRc y.2]
def S_ft : AR :=
 Aq Tryz.f154 2 1 X_ft (fun x => [(V.ptr (.par 0) []), (V.int .i64) x.1, e_TRc x.2]) fun l => (dI (at_ l 1), d_TRc (at_ l 2))
def tt_ft (x : X_ft) : TT Tryz.prog RR_ft :=
 (.ite (B6 0 x.fst)
 (.need ((true && true) && (Nat.beq x.snd.AD.n x.snd.AD.n)) <|
 (.ret ((B8 x.fst ((x.snd.AD.n : Nat) : Int)), x.snd)))
 (.ret (false, x.snd)))
theorem sd_ft (x : X_ft) : (tt_ft x).AJ :=
 (TT.sI (TT.sN TT.sR) TT.sR)
theorem roT_ft (x : X_ft) : TT.Ro p_ft (w_ft x) (tt_ft x) :=
 (TT.rI (TT.rN (TT.rR rfl)) (TT.rR rfl))
def D_ft : AS X_ft R_ft := .ro (.of tt_ft) (fun y => (y.1)) (fun y x => (y, x.2)) fun x y h => congrArg (fun o => (y.1, o)) (roT_ft x y h)
def con_ft : BN Tryz.prog :=
 DC 154 J_ft S_ft (.of tt_ft) D_ft (fun y x => (y, x.2)) (fun y => V.bool y) 2 1 [.any, .any] (lk mxk lbn sd_ft) (fun x => ⟨(nu_e_TRc : ∀ y, (e_TRc y).Cd) (x.2), trivial⟩)
structure TRc_L1 where
 tail : Int
 AD : Ln
def d_TRc_L1 (v : V) : TRc_L1 :=
 ⟨dI (fd v 0), Rg (fd v 1)⟩
def e_TRc_L1_1 (x : TRc_L1) : V :=
 V.cons ((V.int .u64) x.tail) (V.cons ((eLn (.par 1) 36 1) x.AD) (V.unit))
theorem nu_e_TRc_L1_1 (x : TRc_L1) : (e_TRc_L1_1 x).Cd := ⟨trivial, trivial, trivial⟩
abbrev X_fx : Type := Int × TRc_L1 × (Ar Int)
abbrev R_fx : Type := Bool
abbrev RR_fx : Type := Bool × TRc_L1 × (Ar Int)
abbrev p_fx (y : RR_fx) : TRc_L1 × (Ar Int) := y.2
abbrev w_fx (x : X_fx) : TRc_L1 × (Ar Int) := x.2
def J_fx : BT Tryz.prog :=
 Bg Tryz.prog Tryz.f154 16 [] [] [] [] [.any] [.any, .any] [] RR_fx [] fun y => [V.bool y.1, e_TRc_L1_1 y.2.1, (Lv 1 (V.int .u64)) y.2.2]
def S_fx : AR :=
 Aq Tryz.f154 2 2 X_fx (fun x => [(V.ptr (.par 0) []), (V.int .i64) x.1, e_TRc_L1_1 x.2.1, (Lv 1 (V.int .u64)) x.2.2]) fun l => (dI (at_ l 1), d_TRc_L1 (at_ l 2), (RN dI) (at_ l 3))
def tt_fx (x : X_fx) : TT Tryz.prog RR_fx :=
 (.ite (B6 0 x.fst)
 (.ret ((B8 x.fst ((x.snd.fst.AD.n : Nat) : Int)), x.snd))
 (.ret (false, x.snd)))
theorem sd_fx (x : X_fx) : (tt_fx x).AJ :=
 (TT.sI TT.sR TT.sR)
theorem roT_fx (x : X_fx) : TT.Ro p_fx (w_fx x) (tt_fx x) :=
 (TT.rI (TT.rR rfl) (TT.rR rfl))
def D_fx : AS X_fx R_fx := .ro (.of tt_fx) (fun y => (y.1)) (fun y x => (y, x.2)) fun x y h => congrArg (fun o => (y.1, o)) (roT_fx x y h)
def con_fx : BN Tryz.prog :=
 DC 154 J_fx S_fx (.of tt_fx) D_fx (fun y x => (y, x.2)) (fun y => V.bool y) 2 2 [.any, .any] (lk mxk lbn sd_fx) (fun x => ⟨(nu_e_TRc_L1_1 : ∀ y, (e_TRc_L1_1 y).Cd) (x.2.1), (fun _ _ => trivial : ∀ y, ((Lv 1 (V.int .u64)) y).Cd) (x.2.2), trivial⟩)
abbrev X_f13 : Type := Int × TRr
abbrev R_f13 : Type := Bool
abbrev RR_f13 : Type := Bool × TRr
abbrev p_f13 (y : RR_f13) : TRr := y.2
abbrev w_f13 (x : X_f13) : TRr := x.2
def J_f13 : BT Tryz.prog :=
 Bg Tryz.prog Tryz.f134 31 [] [] [(1, [.HR (.par 0) [.Bk 0 0, .Bk 1 1] 12, .HR (.par 0) [.Bk 0 0, .Bk 1 1] 19])] [.back (.loc 19 0), .back (.loc 12 0)] [.any] [sh_TRr] [con_fx] RR_f13 [(0, [⟨.loc 12 0, .par 0, [.Bk 0 0, .Bk 1 1], none, none⟩, ⟨.loc 19 0, .par 0, [.Bk 0 0, .Bk 1 1], none, none⟩])] fun y => [V.bool y.1, e_TRr y.2]
def S_f13 : AR :=
 Aq Tryz.f134 2 1 X_f13 (fun x => [(V.ptr (.par 0) []), (V.int .i64) x.1, e_TRr x.2]) fun l => (dI (at_ l 1), d_TRr (at_ l 2))
def tt_f13 (x : X_f13) : TT Tryz.prog RR_f13 :=
 (.call con_fx (x.fst, ((TRc_L1.mk x.snd.AA.tail (Ln.mk x.snd.AA.AD.nil x.snd.AA.AD.n)), (Ar.mk x.snd.AA.AD.n x.snd.AA.AD.get))) fun (y1 : R_fx) =>
 (.ite (!y1)
 (.need ((true && true) && (Nat.beq x.snd.AA.AD.n x.snd.AA.AD.n)) <|
 (.ret (true, x.snd)))
 (.need (BQ x.fst x.snd.AA.AD.n) <|
 (.need ((Nat.beq x.snd.AA.AD.n x.snd.AA.AD.n) && true) <|
 (.need ((true && true) && (Nat.beq x.snd.AA.AD.n x.snd.AA.AD.n)) <|
 (.ret ((Ae (x.snd.AA.AD.get ((0 : Nat) + (Int.toNat x.fst))) x.snd.AA.tail), x.snd)))))))
theorem sd_f13 (x : X_f13) : (tt_f13 x).AJ :=
 (TT.sC fun _ => (TT.sI (TT.sN TT.sR) (TT.sN (TT.sN (TT.sN TT.sR)))))
theorem roT_f13 (x : X_f13) : TT.Ro p_f13 (w_f13 x) (tt_f13 x) :=
 (TT.rC fun _ => (TT.rI (TT.rN (TT.rR rfl)) (TT.rN (TT.rN (TT.rN (TT.rR rfl))))))
def D_f13 : AS X_f13 R_f13 := .ro (.of tt_f13) (fun y => (y.1)) (fun y x => (y, x.2)) fun x y h => congrArg (fun o => (y.1, o)) (roT_f13 x y h)
def con_f13 : BN Tryz.prog :=
 DC 134 J_f13 S_f13 (.of tt_f13) D_f13 (fun y x => (y, x.2)) (fun y => V.bool y) 2 1 [.any, .any] (lk mxk lbn sd_f13) (fun x => ⟨(nu_e_TRr : ∀ y, (e_TRr y).Cd) (x.2), trivial⟩)
abbrev X_fz : Type := TRr
abbrev R_fz : Type := Bool
abbrev RR_fz : Type := Bool × TRr
abbrev p_fz (y : RR_fz) : TRr := y.2
abbrev w_fz (x : X_fz) : TRr := x
def J_fz : BT Tryz.prog :=
 Bg Tryz.prog Tryz.f115 11 [] [] [] [] [.any] [sh_TRr] [] RR_fz [] fun y => [V.bool y.1, e_TRr y.2]
def S_fz : AR :=
 Aq Tryz.f115 1 1 X_fz (fun x => [(V.ptr (.par 0) []), e_TRr x]) fun l => (d_TRr (at_ l 1))
def tt_fz (x : X_fz) : TT Tryz.prog RR_fz :=
 (.ret (x.closed, x))
theorem sd_fz (x : X_fz) : (tt_fz x).AJ :=
 TT.sR
theorem roT_fz (x : X_fz) : TT.Ro p_fz (w_fz x) (tt_fz x) :=
 (TT.rR rfl)
def D_fz : AS X_fz R_fz := .ro (.of tt_fz) (fun y => (y.1)) (fun y x => (y, x)) fun x y h => congrArg (fun o => (y.1, o)) (roT_fz x y h)
def con_fz : BN Tryz.prog :=
 DC 115 J_fz S_fz (.of tt_fz) D_fz (fun y x => (y, x)) (fun y => V.bool y) 1 1 [.any] (lk mxk lbn sd_fz) (fun x => ⟨(nu_e_TRr : ∀ y, (e_TRr y).Cd) (x), trivial⟩)
abbrev X_f5 : Type := (Ar Int)
abbrev R_f5 : Type := Int
abbrev RR_f5 : Type := Int × (Ar Int)
abbrev p_f5 (y : RR_f5) : (Ar Int) := y.2
abbrev w_f5 (x : X_f5) : (Ar Int) := x
def J_f5 : BT Tryz.prog :=
 Bg Tryz.prog Tryz.f198 25 [] [] [] [] [.any] [.any] [] RR_f5 [] fun y => [(V.int .u64) y.1, (Lv 1 (V.int .u64)) y.2]
def S_f5 : AR :=
 Aq Tryz.f198 1 1 X_f5 (fun x => [(V.own (.par 0) [] 1 x.n 0 x.n), (Lv 1 (V.int .u64)) x]) fun l => ((RN dI) (at_ l 1))
structure X_f5_3 where
 Ad : (Ar Int)
def S_f5_3 : AR :=
 Ai Tryz.f198 3 [(0, .any)] [.any] [] X_f5_3 (fun x => [(V.own (.par 0) [] 1 x.Ad.n 0 x.Ad.n), (Lv 1 (V.int .u64)) x.Ad]) fun l => ⟨(RN dI) (at_ l 1)⟩
structure X_f5_5 where
 Dh : Int
 Jt : Int
 Ad : (Ar Int)
def S_f5_5 : AR :=
 Ai Tryz.f198 5 (an [0, 3, 4]) [.any] [] X_f5_5 (fun x => [(V.own (.par 0) [] 1 x.Ad.n 0 x.Ad.n), (V.int .u64) x.Dh, (V.int .i64) x.Jt, (Lv 1 (V.int .u64)) x.Ad]) fun l => ⟨dI (at_ l 1), dI (at_ l 2), (RN dI) (at_ l 3)⟩
abbrev w_f5_3 (x : X_f5_3) : (Ar Int) := (x.Ad)
abbrev w_f5_5 (x : X_f5_5) : (Ar Int) := (x.Ad)
def tt_f5_5 (D_f5_5 : AS X_f5_5 RR_f5) (x : X_f5_5) : TT Tryz.prog RR_f5 :=
 (.ite (B8 x.Jt ((x.Ad.n : Nat) : Int))
 (.need (BQ x.Jt x.Ad.n) <|
 (.need ((Nat.beq x.Ad.n x.Ad.n) && true) <|
 (.Ab S_f5_5 D_f5_5 (X_f5_5.mk (N4 x.Dh (x.Ad.get ((0 : Nat) + (Int.toNat x.Jt)))) (IntKind.i64.wrap (x.Jt + 1)) x.Ad))))
 (.ret (x.Dh, x.Ad)))
theorem sd_f5_5 (D_f5_5 : AS X_f5_5 RR_f5) (x : X_f5_5) : (tt_f5_5 D_f5_5 x).AJ :=
 (TT.sI (TT.sN (TT.sN TT.sJ)) TT.sR)
theorem roT_f5_5 (D_f5_5 : AS X_f5_5 RR_f5) (r5 : ∀ x y, D_f5_5.rel x y → p_f5 y = w_f5_5 x) (x : X_f5_5) : TT.Ro p_f5 (w_f5_5 x) (tt_f5_5 D_f5_5 x) :=
 (TT.rI (TT.rN (TT.rN (TT.rJ (r5 _)))) (TT.rR rfl))
def D_f5_5 : AS X_f5_5 RR_f5 := AS.loop tt_f5_5
theorem ok_f5_5 : AX J_f5 S_f5_5 D_f5_5 :=
 BG fun D_f5_5 h_5 => lk mxk (lbc h_5 rfl lbn) (sd_f5_5 D_f5_5)
theorem ro_f5_5 : ∀ x y, D_f5_5.rel x y → p_f5 y = w_f5_5 x :=
 Js fun D_f5_5 r5 => roT_f5_5 D_f5_5 r5
def tt_f5_3 (x : X_f5_3) : TT Tryz.prog RR_f5 :=
 (.need (BQ 0 x.Ad.n) <|
 (.need ((Nat.beq x.Ad.n x.Ad.n) && true) <|
 (.Ab S_f5_5 D_f5_5 (X_f5_5.mk (x.Ad.get ((0 : Nat) + (Int.toNat 0))) 1 x.Ad))))
theorem sd_f5_3 (x : X_f5_3) : (tt_f5_3 x).AJ :=
 (TT.sN (TT.sN TT.sJ))
theorem roT_f5_3 (x : X_f5_3) : TT.Ro p_f5 (w_f5_3 x) (tt_f5_3 x) :=
 (TT.rN (TT.rN (TT.rJ (ro_f5_5 _))))
def D_f5_3 : AS X_f5_3 RR_f5 := .of tt_f5_3
theorem ok_f5_3 : AX J_f5 S_f5_3 D_f5_3 :=
 lk mxk (lbc ok_f5_5 rfl lbn) sd_f5_3
theorem ro_f5_3 : ∀ x y, D_f5_3.rel x y → p_f5 y = w_f5_3 x :=
 roT_f5_3 
def tt_f5 (x : X_f5) : TT Tryz.prog RR_f5 :=
 (.ite (B8 ((x.n : Nat) : Int) 1)
 .fail
 (.Ab S_f5_3 D_f5_3 (X_f5_3.mk x)))
theorem sd_f5 (x : X_f5) : (tt_f5 x).AJ :=
 (TT.sI TT.UO TT.sJ)
theorem roT_f5 (x : X_f5) : TT.Ro p_f5 (w_f5 x) (tt_f5 x) :=
 (TT.rI TT.TN (TT.rJ (ro_f5_3 _)))
def D_f5 : AS X_f5 R_f5 := .ro (.of tt_f5) (fun y => (y.1)) (fun y x => (y, x)) fun x y h => congrArg (fun o => (y.1, o)) (roT_f5 x y h)
def con_f5 : BN Tryz.prog :=
 DC 198 J_f5 S_f5 (.of tt_f5) D_f5 (fun y x => (y, x)) (fun y => (V.int .u64) y) 1 1 [.any] (lk mxk (lbc ok_f5_5 rfl (lbc ok_f5_3 rfl lbn)) sd_f5) (fun x => ⟨(fun _ _ => trivial : ∀ y, ((Lv 1 (V.int .u64)) y).Cd) (x), trivial⟩)
abbrev X_f1a : Type := TRc
abbrev R_f1a : Type := Int
abbrev RR_f1a : Type := Int × TRc
abbrev p_f1a (y : RR_f1a) : TRc := y.2
abbrev w_f1a (x : X_f1a) : TRc := x
def J_f1a : BT Tryz.prog :=
 Bg Tryz.prog Tryz.f173 8 [] [] [] [.back (.loc 6 0)] [.any] [sh_TRc] [con_f5] RR_f1a [] fun y => [(V.int .u64) y.1, e_TRc y.2]
def S_f1a : AR :=
 Aq Tryz.f173 1 1 X_f1a (fun x => [(V.ptr (.par 0) []), e_TRc x]) fun l => (d_TRc (at_ l 1))
def tt_f1a (x : X_f1a) : TT Tryz.prog RR_f1a :=
 (.call con_f5 (Ar.mk x.AD.n x.AD.get) fun (y1 : R_f5) =>
 (.need ((true && true) && (Nat.beq x.AD.n x.AD.n)) <|
 (.ret (y1, x))))
theorem sd_f1a (x : X_f1a) : (tt_f1a x).AJ :=
 (TT.sC fun _ => (TT.sN TT.sR))
theorem roT_f1a (x : X_f1a) : TT.Ro p_f1a (w_f1a x) (tt_f1a x) :=
 (TT.rC fun _ => (TT.rN (TT.rR rfl)))
def D_f1a : AS X_f1a R_f1a := .ro (.of tt_f1a) (fun y => (y.1)) (fun y x => (y, x)) fun x y h => congrArg (fun o => (y.1, o)) (roT_f1a x y h)
def con_f1a : BN Tryz.prog :=
 DC 173 J_f1a S_f1a (.of tt_f1a) D_f1a (fun y x => (y, x)) (fun y => (V.int .u64) y) 1 1 [.any] (lk mxk lbn sd_f1a) (fun x => ⟨(nu_e_TRc : ∀ y, (e_TRc y).Cd) (x), trivial⟩)
abbrev X_f1e : Type := TRr
abbrev R_f1e : Type := Bool
abbrev RR_f1e : Type := Bool × TRr
abbrev p_f1e (y : RR_f1e) : TRr := y.2
abbrev w_f1e (x : X_f1e) : TRr := x
def J_f1e : BT Tryz.prog :=
 Bg Tryz.prog Tryz.f135 22 [] [] [] [] [.any] [sh_TRr] [con_f1a] RR_f1e [] fun y => [V.bool y.1, e_TRr y.2]
def S_f1e : AR :=
 Aq Tryz.f135 1 1 X_f1e (fun x => [(V.ptr (.par 0) []), e_TRr x]) fun l => (d_TRr (at_ l 1))
def tt_f1e (x : X_f1e) : TT Tryz.prog RR_f1e :=
 (.call con_f1a x.AA fun (y1 : R_f1a) =>
 (.ret ((B6 x.most (IntKind.u64.wrap (x.AA.tail - y1))), x)))
theorem sd_f1e (x : X_f1e) : (tt_f1e x).AJ :=
 (TT.sC fun _ => TT.sR)
theorem roT_f1e (x : X_f1e) : TT.Ro p_f1e (w_f1e x) (tt_f1e x) :=
 (TT.rC fun _ => (TT.rR rfl))
def D_f1e : AS X_f1e R_f1e := .ro (.of tt_f1e) (fun y => (y.1)) (fun y x => (y, x)) fun x y h => congrArg (fun o => (y.1, o)) (roT_f1e x y h)
def con_f1e : BN Tryz.prog :=
 DC 135 J_f1e S_f1e (.of tt_f1e) D_f1e (fun y x => (y, x)) (fun y => V.bool y) 1 1 [.any] (lk mxk lbn sd_f1e) (fun x => ⟨(nu_e_TRr : ∀ y, (e_TRr y).Cd) (x), trivial⟩)
abbrev X_f34 : Type := TAk × Bool × Bool
abbrev R_f34 : Type := Int × Bool
def J_f34 : BT Tryz.prog :=
 Bg Tryz.prog Tryz.f136 21 [(3, 3)] [] [] [] [.any, .any] [] [] R_f34 [] fun y => [V.CR (V.cons ((V.int .i64) y.1) (V.cons (V.bool y.2) (V.unit)))]
def S_f34 : AR :=
 Aq Tryz.f136 3 0 X_f34 (fun x => [e_TAk x.1, V.bool x.2.1, V.bool x.2.2]) fun l => (d_TAk (at_ l 0), dB (at_ l 1), dB (at_ l 2))
def tt_f34 (x : X_f34) : TT Tryz.prog R_f34 :=
 (.ite x.snd.fst
 (.ret (6, true))
 (.ite (Ae x.fst.Mode 0)
 (.ret (5, true))
 (.ite (Ae x.fst.Mode 2)
 (.ite x.snd.snd
 (.ret (7, true))
 (.ret (0, false)))
 (.ret (0, false)))))
theorem sd_f34 (x : X_f34) : (tt_f34 x).AJ :=
 (TT.sI TT.sR (TT.sI TT.sR (TT.sI (TT.sI TT.sR TT.sR) TT.sR)))
def D_f34 : AS X_f34 R_f34 := .of tt_f34
def con_f34 : BN Tryz.prog :=
 CY 136 J_f34 S_f34 D_f34 3 0 [.any, .any, .any] (lk mxk lbn sd_f34)
abbrev X_fm : Type := Int × TRr
abbrev R_fm : Type := Int
abbrev RR_fm : Type := Int × TRr
abbrev p_fm (y : RR_fm) : TRr := y.2
abbrev w_fm (x : X_fm) : TRr := x.2
def J_fm : BT Tryz.prog :=
 Bg Tryz.prog Tryz.f101 23 [] [] [] [.back (.loc 19 0)] [.any] [sh_TRr] [con_ft] RR_fm [] fun y => [(V.int .u64) y.1, e_TRr y.2]
def S_fm : AR :=
 Aq Tryz.f101 2 1 X_fm (fun x => [(V.ptr (.par 0) []), (V.int .i64) x.1, e_TRr x.2]) fun l => (dI (at_ l 1), d_TRr (at_ l 2))
structure X_fm_3 where
 NC : Int
 Ad : TRr
def S_fm_3 : AR :=
 Ai Tryz.f101 3 (an [0, 1]) [sh_TRr] [] X_fm_3 (fun x => [(V.ptr (.par 0) []), (V.int .i64) x.NC, e_TRr x.Ad]) fun l => ⟨dI (at_ l 1), d_TRr (at_ l 2)⟩
abbrev w_fm_3 (x : X_fm_3) : TRr := (x.Ad)
def tt_fm_3 (x : X_fm_3) : TT Tryz.prog RR_fm :=
 (.need (BQ x.NC x.Ad.AA.AD.n) <|
 (.need ((Nat.beq x.Ad.AA.AD.n x.Ad.AA.AD.n) && true) <|
 (.need ((true && true) && (Nat.beq x.Ad.AA.AD.n x.Ad.AA.AD.n)) <|
 (.ret ((x.Ad.AA.AD.get ((0 : Nat) + (Int.toNat x.NC))), x.Ad)))))
theorem sd_fm_3 (x : X_fm_3) : (tt_fm_3 x).AJ :=
 (TT.sN (TT.sN (TT.sN TT.sR)))
theorem roT_fm_3 (x : X_fm_3) : TT.Ro p_fm (w_fm_3 x) (tt_fm_3 x) :=
 (TT.rN (TT.rN (TT.rN (TT.rR rfl))))
def D_fm_3 : AS X_fm_3 RR_fm := .of tt_fm_3
theorem ok_fm_3 : AX J_fm S_fm_3 D_fm_3 :=
 lk mxk lbn sd_fm_3
theorem ro_fm_3 : ∀ x y, D_fm_3.rel x y → p_fm y = w_fm_3 x :=
 roT_fm_3 
def tt_fm (x : X_fm) : TT Tryz.prog RR_fm :=
 (.call con_ft (x.fst, x.snd.AA) fun (y1 : R_ft) =>
 (.ite (!y1)
 (.ret (0, x.snd))
 (.Ab S_fm_3 D_fm_3 (X_fm_3.mk x.fst x.snd))))
theorem sd_fm (x : X_fm) : (tt_fm x).AJ :=
 (TT.sC fun _ => (TT.sI TT.sR TT.sJ))
theorem roT_fm (x : X_fm) : TT.Ro p_fm (w_fm x) (tt_fm x) :=
 (TT.rC fun _ => (TT.rI (TT.rR rfl) (TT.rJ (ro_fm_3 _))))
def D_fm : AS X_fm R_fm := .ro (.of tt_fm) (fun y => (y.1)) (fun y x => (y, x.2)) fun x y h => congrArg (fun o => (y.1, o)) (roT_fm x y h)
def con_fm : BN Tryz.prog :=
 DC 101 J_fm S_fm (.of tt_fm) D_fm (fun y x => (y, x.2)) (fun y => (V.int .u64) y) 2 1 [.any, .any] (lk mxk (lbc ok_fm_3 rfl lbn) sd_fm) (fun x => ⟨(nu_e_TRr : ∀ y, (e_TRr y).Cd) (x.2), trivial⟩)
abbrev X_f1h : Type := TRr
abbrev R_f1h : Type := Int
abbrev RR_f1h : Type := Int × TRr
abbrev p_f1h (y : RR_f1h) : TRr := y.2
abbrev w_f1h (x : X_f1h) : TRr := x
def J_f1h : BT Tryz.prog :=
 Bg Tryz.prog Tryz.f81 10 [] [] [] [] [.any] [sh_TRr] [] RR_f1h [] fun y => [(V.int .u64) y.1, e_TRr y.2]
def S_f1h : AR :=
 Aq Tryz.f81 1 1 X_f1h (fun x => [(V.ptr (.par 0) []), e_TRr x]) fun l => (d_TRr (at_ l 1))
def tt_f1h (x : X_f1h) : TT Tryz.prog RR_f1h :=
 (.ret (x.AA.tail, x))
theorem sd_f1h (x : X_f1h) : (tt_f1h x).AJ :=
 TT.sR
theorem roT_f1h (x : X_f1h) : TT.Ro p_f1h (w_f1h x) (tt_f1h x) :=
 (TT.rR rfl)
def D_f1h : AS X_f1h R_f1h := .ro (.of tt_f1h) (fun y => (y.1)) (fun y x => (y, x)) fun x y h => congrArg (fun o => (y.1, o)) (roT_f1h x y h)
def con_f1h : BN Tryz.prog :=
 DC 81 J_f1h S_f1h (.of tt_f1h) D_f1h (fun y x => (y, x)) (fun y => (V.int .u64) y) 1 1 [.any] (lk mxk lbn sd_f1h) (fun x => ⟨(nu_e_TRr : ∀ y, (e_TRr y).Cd) (x), trivial⟩)
def d_TEv (v : V) : TEv :=
 ⟨dI (fd v 0), dI (fd v 1), dI (fd v 2), dI (fd v 3), dI (fd v 4)⟩
def e_TEv (x : TEv) : V :=
 V.cons ((V.int .i64) x.Thread) (V.cons ((V.int .i64) x.Kind) (V.cons ((V.int .i64) x.Ring) (V.cons ((V.int .u64) x.AG) (V.cons ((V.int .u64) x.Value) (V.unit)))))
theorem nu_e_TEv (x : TEv) : (e_TEv x).Cd := ⟨trivial, trivial, trivial, trivial, trivial, trivial⟩
abbrev X_fp : Type := TAk × TEv × Bool × TFa
abbrev R_fp : Type := TEv × Bool
abbrev RR_fp : Type := TEv × Bool × TFa
abbrev p_fp (y : RR_fp) : TFa := y.2.2
abbrev w_fp (x : X_fp) : TFa := x.2.2.2
def J_fp : BT Tryz.prog :=
 Bg Tryz.prog Tryz.f79 61 [(5, 3), (35, 1), (37, 1), (56, 1)] [(2, [.open_ 10])] [] [] [.any, .any] [sh_TFa] [con_fe, con_fz, con_f13, con_f1e, con_fm, con_f1h, con_f34] RR_fp [] fun y => [V.CR (V.cons (e_TEv y.1) (V.cons (V.bool y.2.1) (V.unit))), e_TFa y.2.2]
def S_fp : AR :=
 Aq Tryz.f79 4 1 X_fp (fun x => [(V.ptr (.par 0) []), e_TAk x.1, e_TEv x.2.1, V.bool x.2.2.1, e_TFa x.2.2.2]) fun l => (d_TAk (at_ l 1), d_TEv (at_ l 2), dB (at_ l 3), d_TFa (at_ l 4))
structure X_fp_5 where
 Sm : Bool
 Uv : TAk
 Px : Bool
 Ad : TFa
 Jr : TEv
 VE : TEv
 Ti : TRr
def S_fp_5 : AR :=
 Ai Tryz.f79 5 (an [3, 5, 6, 8, 10, 11]) [sh_TFa] [(.loc 6 0, .any), (.loc 8 0, .any), (.loc 10 1, sh_TRr)] X_fp_5 (fun x => [V.bool x.Sm, (DO e_TAk) x.Uv, (V.ptr (.loc 6 0) []), (V.ptr (.loc 8 0) []), (V.ptr (.loc 10 1) []), V.bool x.Px, e_TFa x.Ad, e_TEv x.Jr, e_TEv x.VE, e_TRr x.Ti]) fun l => ⟨dB (at_ l 0), (DP d_TAk) (at_ l 1), dB (at_ l 5), d_TFa (at_ l 6), d_TEv (at_ l 7), d_TEv (at_ l 8), d_TRr (at_ l 9)⟩
abbrev w_fp_5 (x : X_fp_5) : TFa := (x.Ad)
def tt_fp_5 (x : X_fp_5) : TT Tryz.prog RR_fp :=
 (.ite x.Px
 (.call con_fz x.Ti fun (y1 : R_fz) =>
 (.call con_f34 (x.Uv, (y1, x.Sm)) fun (y2 : R_f34) =>
 (.ret ((TEv.mk x.Jr.Thread y2.fst x.Uv.Ring x.Jr.AG x.Jr.Value), (y2.snd, x.Ad)))))
 (.call con_fm (x.Uv.Reader, x.Ti) fun (y1 : R_fm) =>
 (.ite (Ae x.Uv.Kind 1)
 (.call con_f1h x.Ti fun (y2 : R_f1h) =>
 (.ret ((TEv.mk x.Jr.Thread 1 x.Uv.Ring y2 x.Jr.Value), (true, x.Ad))))
 (.ret ((TEv.mk x.Jr.Thread 3 x.Uv.Ring y1 x.Jr.Value), (true, x.Ad))))))
theorem sd_fp_5 (x : X_fp_5) : (tt_fp_5 x).AJ :=
 (TT.sI (TT.sC fun _ => (TT.sC fun _ => TT.sR)) (TT.sC fun _ => (TT.sI (TT.sC fun _ => TT.sR) TT.sR)))
theorem roT_fp_5 (x : X_fp_5) : TT.Ro p_fp (w_fp_5 x) (tt_fp_5 x) :=
 (TT.rI (TT.rC fun _ => (TT.rC fun _ => (TT.rR rfl))) (TT.rC fun _ => (TT.rI (TT.rC fun _ => (TT.rR rfl)) (TT.rR rfl))))
def D_fp_5 : AS X_fp_5 RR_fp := .of tt_fp_5
theorem ok_fp_5 : AX J_fp S_fp_5 D_fp_5 :=
 lk mxk lbn sd_fp_5
theorem ro_fp_5 : ∀ x y, D_fp_5.rel x y → p_fp y = w_fp_5 x :=
 roT_fp_5 
def tt_fp (x : X_fp) : TT Tryz.prog RR_fp :=
 (.call con_fe (x.fst.Ring, x.snd.snd.snd) fun (y1 : R_fe) =>
 (.need (!y1.nil) <|
 (.call con_f13 (x.fst.Reader, y1.x) fun (y2 : R_f13) =>
 (.ite (Ae x.fst.Kind 1)
 (.call con_fz y1.x fun (y3 : R_fz) =>
 (.ite y3
 (.Ab S_fp_5 D_fp_5 (X_fp_5.mk x.snd.snd.fst x.fst true x.snd.snd.snd x.snd.fst (TEv.mk 0 0 0 0 0) y1.x))
 (.call con_f1e y1.x fun (y4 : R_f1e) =>
 (.Ab S_fp_5 D_fp_5 (X_fp_5.mk x.snd.snd.fst x.fst y4 x.snd.snd.snd x.snd.fst (TEv.mk 0 0 0 0 0) y1.x)))))
 (.Ab S_fp_5 D_fp_5 (X_fp_5.mk x.snd.snd.fst x.fst y2 x.snd.snd.snd x.snd.fst (TEv.mk 0 0 0 0 0) y1.x))))))
theorem sd_fp (x : X_fp) : (tt_fp x).AJ :=
 (TT.sC fun _ => (TT.sN (TT.sC fun _ => (TT.sI (TT.sC fun _ => (TT.sI TT.sJ (TT.sC fun _ => TT.sJ))) TT.sJ))))
theorem roT_fp (x : X_fp) : TT.Ro p_fp (w_fp x) (tt_fp x) :=
 (TT.rC fun _ => (TT.rN (TT.rC fun _ => (TT.rI (TT.rC fun _ => (TT.rI (TT.rJ (ro_fp_5 _)) (TT.rC fun _ => (TT.rJ (ro_fp_5 _))))) (TT.rJ (ro_fp_5 _))))))
def D_fp : AS X_fp R_fp := .ro (.of tt_fp) (fun y => (y.1, y.2.1)) (fun y x => (y.1, y.2, x.2.2.2)) fun x y h => congrArg (fun o => (y.1, y.2.1, o)) (roT_fp x y h)
def con_fp : BN Tryz.prog :=
 DC 79 J_fp S_fp (.of tt_fp) D_fp (fun y x => (y.1, y.2, x.2.2.2)) (fun y => V.CR (V.cons (e_TEv y.1) (V.cons (V.bool y.2) (V.unit)))) 4 1 [.any, .any, .any, .any] (lk mxk (lbc ok_fp_5 rfl lbn) sd_fp) (fun x => ⟨(nu_e_TFa : ∀ y, (e_TFa y).Cd) (x.2.2.2), trivial⟩)
abbrev X_f1c : Type := TFa
abbrev R_f1c : Type := Int
abbrev RR_f1c : Type := Int × TFa
abbrev p_f1c (y : RR_f1c) : TFa := y.2
abbrev w_f1c (x : X_f1c) : TFa := x
def J_f1c : BT Tryz.prog :=
 Bg Tryz.prog Tryz.f56 9 [] [] [] [] [.any] [sh_TFa] [] RR_f1c [] fun y => [(V.int .u64) y.1, e_TFa y.2]
def S_f1c : AR :=
 Aq Tryz.f56 1 1 X_f1c (fun x => [(V.ptr (.par 0) []), e_TFa x]) fun l => (d_TFa (at_ l 1))
def tt_f1c (x : X_f1c) : TT Tryz.prog RR_f1c :=
 (.ret (x.now, x))
theorem sd_f1c (x : X_f1c) : (tt_f1c x).AJ :=
 TT.sR
theorem roT_f1c (x : X_f1c) : TT.Ro p_f1c (w_f1c x) (tt_f1c x) :=
 (TT.rR rfl)
def D_f1c : AS X_f1c R_f1c := .ro (.of tt_f1c) (fun y => (y.1)) (fun y x => (y, x)) fun x y h => congrArg (fun o => (y.1, o)) (roT_f1c x y h)
def con_f1c : BN Tryz.prog :=
 DC 56 J_f1c S_f1c (.of tt_f1c) D_f1c (fun y x => (y, x)) (fun y => (V.int .u64) y) 1 1 [.any] (lk mxk lbn sd_f1c) (fun x => ⟨(nu_e_TFa : ∀ y, (e_TFa y).Cd) (x), trivial⟩)
abbrev Dsl_TRs : Type := (Sl TRs)
def esl_TRs : Dsl_TRs → V := (Lu none 4 e_TRs)
def dsl_TRs : V → Dsl_TRs := (LU d_TRs)
def hsl_TRs : Sh := (.sl none 4 (e_TRs (d_TRs .undef)))
structure TSt where
 AB : (Sl TTh)
 AF : (Sl TRs)
 ED : Int
 Reads : Int
 Bt : Bool
def d_TSt (v : V) : TSt :=
 ⟨dsl_TTh (fd v 0), dsl_TRs (fd v 1), dI (fd v 2), dI (fd v 3), dB (fd v 4)⟩
def e_TSt (x : TSt) : V :=
 V.cons (esl_TTh x.AB) (V.cons (esl_TRs x.AF) (V.cons ((V.int .u64) x.ED) (V.cons ((V.int .u64) x.Reads) (V.cons (V.bool x.Bt) (V.unit)))))
theorem nu_e_TSt (x : TSt) : (e_TSt x).Cd := ⟨trivial, trivial, trivial, trivial, trivial, trivial⟩
def sh_TSt : Sh := (.cons hsl_TTh (.cons hsl_TRs .any))
abbrev X_fg : Type := (Ar TTh)
abbrev R_fg : Type := (Sl TTh)
abbrev RR_fg : Type := (Sl TTh) × (Ar TTh)
abbrev p_fg (y : RR_fg) : (Ar TTh) := y.2
abbrev w_fg (x : X_fg) : (Ar TTh) := x
def J_fg : BT Tryz.prog :=
 Bg Tryz.prog Tryz.f46 8 [(5, 1), (6, 1)] [] [] [.Eg 2] [hosl_TTh] [.any] [] RR_fg [] fun y => [eosl_TTh y.1, (Lv 14 e_TTh) y.2]
def S_fg : AR :=
 Aq Tryz.f46 1 1 X_fg (fun x => [(V.own (.par 0) [] 14 x.n 0 x.n), (Lv 14 e_TTh) x]) fun l => ((RN d_TTh) (at_ l 1))
def tt_fg (x : X_fg) : TT Tryz.prog RR_fg :=
 (.need (Nat.blt 0 x.n) <|
 (.need ((true && (Nat.beq x.n x.n)) && (room ((0 : Nat) + x.n) 128)) <|
 (.side (∀ i1 : Nat, ((i1 < x.n) → ((true && (true && (true && (true && (true && ((true && (true && (true && (true && (true && (true && (true && (true && true)))))))) && (true && true))))))) = true))) <|
 (.ret ((Sl.mk (cond (Nat.beq x.n 0) false false) ((0 : Nat) + x.n) (fun i1 => (TTh.mk (cond (Nat.blt i1 0) (0 : Int) (x.get ((0 : Nat) + (i1 - 0))).At) (cond (Nat.blt i1 0) (0 : Int) (x.get ((0 : Nat) + (i1 - 0))).Phase) (cond (Nat.blt i1 0) (0 : Int) (x.get ((0 : Nat) + (i1 - 0))).Ring) (cond (Nat.blt i1 0) (0 : Int) (x.get ((0 : Nat) + (i1 - 0))).Status) (cond (Nat.blt i1 0) (0 : Int) (x.get ((0 : Nat) + (i1 - 0))).AG) (fun i2 => (cond (Nat.blt i1 0) (0 : Int) ((x.get ((0 : Nat) + (i1 - 0))).Ao i2))) (Sl.mk (cond (Nat.blt i1 0) true (x.get ((0 : Nat) + (i1 - 0))).Seen.nil) (cond (Nat.blt i1 0) (0 : Nat) (x.get ((0 : Nat) + (i1 - 0))).Seen.n) (fun i2 => (cond (Nat.blt i1 0) (0 : Int) ((x.get ((0 : Nat) + (i1 - 0))).Seen.get i2))))))), x)))))
theorem sd_fg (x : X_fg) : (tt_fg x).AJ :=
 (TT.sN (TT.sN (TT.sS (fun _ _ => rfl) TT.sR)))
theorem roT_fg (x : X_fg) : TT.Ro p_fg (w_fg x) (tt_fg x) :=
 (TT.rN (TT.rN (TT.rS (TT.rR rfl))))
def D_fg : AS X_fg R_fg := .ro (.of tt_fg) (fun y => (y.1)) (fun y x => (y, x)) fun x y h => congrArg (fun o => (y.1, o)) (roT_fg x y h)
def con_fg : BN Tryz.prog :=
 DC 46 J_fg S_fg (.of tt_fg) D_fg (fun y x => (y, x)) (fun y => eosl_TTh y) 1 1 [.any] (lk mxk lbn sd_fg) (fun x => ⟨(fun _ _ => (nu_e_TTh) _ : ∀ y, ((Lv 14 e_TTh) y).Cd) (x), trivial⟩)
abbrev X_f1q : Type := (Sl Int)
abbrev R_f1q : Type := (Sl Int)
def J_f1q : BT Tryz.prog :=
 Bg Tryz.prog Tryz.f47 8 [(6, 1)] [] [] [.Eg 2] [BU] [] [] R_f1q [] fun y => [BL y]
def S_f1q : AR :=
 Aq Tryz.f47 1 0 X_f1q (fun x => [BL x]) fun l => (Bi (at_ l 0))
def tt_f1q (x : X_f1q) : TT Tryz.prog R_f1q :=
 (.ite x.nil
 (.ret (Sl.mk true 0 (fun _i1 => (0 : Int))))
 (.need (true && (room ((0 : Nat) + x.n) 8)) <|
 (.ret (Sl.mk (cond (Nat.beq x.n 0) false false) ((0 : Nat) + x.n) (fun i1 => (cond (Nat.blt i1 0) (0 : Int) (x.get (i1 - 0))))))))
theorem sd_f1q (x : X_f1q) : (tt_f1q x).AJ :=
 (TT.sI TT.sR (TT.sN TT.sR))
def D_f1q : AS X_f1q R_f1q := .of tt_f1q
def con_f1q : BN Tryz.prog :=
 CY 47 J_f1q S_f1q D_f1q 1 0 [BU] (lk mxk lbn sd_f1q)
abbrev DslA_TRs : Type := (Sl TRs)
def eslA_TRs : DslA_TRs → V := (Lu (some 93) 4 e_TRs)
def dslA_TRs : V → DslA_TRs := (LU d_TRs)
def hslA_TRs : Sh := (.sl (some 93) 4 (e_TRs (d_TRs .undef)))
def e_TSt_o0_1 (x : TSt) : V :=
 V.cons (eosl_TTh x.AB) (V.cons (eslA_TRs x.AF) (V.cons ((V.int .u64) x.ED) (V.cons ((V.int .u64) x.Reads) (V.cons (V.bool x.Bt) (V.unit)))))
theorem nu_e_TSt_o0_1 (x : TSt) : (e_TSt_o0_1 x).Cd := ⟨(fun _ _ => (nu_e_TTh) _ : ∀ y, (eosl_TTh y).Cd) x.AB, trivial, trivial, trivial, trivial, trivial⟩
def sh_TSt_o0_1 : Sh := (.cons hosl_TTh (.cons hslA_TRs .any))
def e_TSt_1 (x : TSt) : V :=
 V.cons (esl_TTh x.AB) (V.cons (eslA_TRs x.AF) (V.cons ((V.int .u64) x.ED) (V.cons ((V.int .u64) x.Reads) (V.cons (V.bool x.Bt) (V.unit)))))
theorem nu_e_TSt_1 (x : TSt) : (e_TSt_1 x).Cd := ⟨trivial, trivial, trivial, trivial, trivial, trivial⟩
def sh_TSt_1 : Sh := (.cons hsl_TTh (.cons hslA_TRs .any))
abbrev X_f1 : Type := TFa
abbrev R_f1 : Type := TSt
abbrev RR_f1 : Type := TSt × TFa
abbrev p_f1 (y : RR_f1) : TFa := y.2
abbrev w_f1 (x : X_f1) : TFa := x
def J_f1 : BT Tryz.prog :=
 Bg Tryz.prog Tryz.f17 64 [(56, 1)] [(4, [.back (.loc 12 0)]), (5, [.back (.loc 37 0), .back (.loc 34 0), .back (.loc 28 0), .back (.loc 12 0)]), (6, [.back (.loc 37 0), .back (.loc 34 0), .back (.loc 28 0), .back (.loc 12 0)]), (7, [.back (.loc 37 0), .back (.loc 34 0), .back (.loc 28 0), .back (.loc 12 0)]), (8, [.back (.loc 37 0), .back (.loc 34 0), .back (.loc 28 0), .back (.loc 12 0)]), (9, [.back (.loc 37 0), .back (.loc 34 0), .back (.loc 28 0), .back (.loc 12 0), .U3 (.loc 2 0) [.Bk 0 0]]), (10, [.back (.loc 54 0), .back (.loc 37 0), .back (.loc 34 0), .back (.loc 28 0), .back (.loc 12 0)]), (11, [.back (.loc 54 0), .back (.loc 37 0), .back (.loc 34 0), .back (.loc 28 0), .back (.loc 12 0)]), (12, [.back (.loc 37 0), .back (.loc 34 0), .back (.loc 28 0), .back (.loc 12 0)]), (13, [.back (.loc 54 0), .back (.loc 37 0), .back (.loc 34 0), .back (.loc 28 0), .back (.loc 12 0)]), (14, [.back (.loc 54 0), .back (.loc 49 0), .back (.loc 37 0), .back (.loc 34 0), .back (.loc 28 0), .back (.loc 12 0)])] [(3, [.HR (.par 0) [.Bk 1 2] 12]), (7, [.HR (.loc 2 0) [.Bk 0 0] 34, .HR (.loc 2 0) [.Bk 0 0] 37])] [.back (.loc 54 0), .back (.loc 49 0), .back (.loc 37 0), .back (.loc 34 0), .back (.loc 28 0), .back (.loc 12 0)] [sh_TSt] [sh_TFa] [con_f1d, con_fg, con_f1q] RR_f1 [(0, [⟨.loc 12 0, .par 0, [.Bk 1 2], none, none⟩, ⟨.loc 34 0, .loc 2 0, [.Bk 0 0], none, none⟩, ⟨.loc 37 0, .loc 2 0, [.Bk 0 0], none, none⟩]), (5, [⟨.loc 12 0, .par 0, [.Bk 1 2], none, none⟩, ⟨.loc 34 0, .loc 2 0, [.Bk 0 0], none, none⟩, ⟨.loc 37 0, .loc 2 0, [.Bk 0 0], none, none⟩]), (9, [⟨.loc 12 0, .par 0, [.Bk 1 2], none, none⟩, ⟨.loc 34 0, .loc 2 0, [.Bk 0 0], none, none⟩, ⟨.loc 37 0, .loc 2 0, [.Bk 0 0], none, none⟩]), (10, [⟨.loc 49 0, .par 0, [.Bk 2 3], none, none⟩, ⟨.loc 12 0, .par 0, [.Bk 1 2], none, none⟩, ⟨.loc 34 0, .loc 2 0, [.Bk 0 0], none, none⟩, ⟨.loc 37 0, .loc 2 0, [.Bk 0 0], none, none⟩])] fun y => [e_TSt y.1, e_TFa y.2]
def S_f1 : AR :=
 Aq Tryz.f17 1 1 X_f1 (fun x => [(V.ptr (.par 0) []), e_TFa x]) fun l => (d_TFa (at_ l 1))
structure X_f1_5 where
 MX : Int
 ER : Int
 Ad : TFa
 CO : TSt
def S_f1_5 : AR :=
 Ai Tryz.f17 5 (an [0, 2, 29, 30]) [sh_TFa] [(.loc 2 0, sh_TSt_o0_1)] X_f1_5 (fun x => [(V.ptr (.par 0) []), (V.ptr (.loc 2 0) []), (V.int .i64) x.MX, (V.int .i64) x.ER, e_TFa x.Ad, e_TSt_o0_1 x.CO]) fun l => ⟨dI (at_ l 2), dI (at_ l 3), d_TFa (at_ l 4), d_TSt (at_ l 5)⟩
structure X_f1_9 where
 Ad : TFa
 CO : TSt
def S_f1_9 : AR :=
 Ai Tryz.f17 9 (an [0, 2]) [sh_TFa] [(.loc 2 0, sh_TSt_1)] X_f1_9 (fun x => [(V.ptr (.par 0) []), (V.ptr (.loc 2 0) []), e_TFa x.Ad, e_TSt_1 x.CO]) fun l => ⟨d_TFa (at_ l 2), d_TSt (at_ l 3)⟩
structure X_f1_10 where
 TU : Int
 C1 : Int
 Ad : TFa
 CO : TSt
def S_f1_10 : AR :=
 Ai Tryz.f17 10 (an [2, 49, 50, 51]) [sh_TFa] [(.loc 2 0, sh_TSt_1), (.loc 49 0, .any)] X_f1_10 (fun x => [(V.ptr (.loc 2 0) []), (V.own (.loc 49 0) [] 1 x.Ad.rings.n 0 x.Ad.rings.n), (V.int .i64) x.TU, (V.int .i64) x.C1, V.cons (e_TPg x.Ad.p) (V.cons (eosl_TTh x.Ad.threads) (V.cons (V.Bq (.loc 49 0) 88 1 x.Ad.rings.nil x.Ad.rings.n) (V.cons ((V.int .u64) x.Ad.now) (V.cons ((V.int .u64) x.Ad.reads) (V.cons (V.bool x.Ad.ended) (V.unit)))))), e_TSt_1 x.CO, (V.arr 1 x.Ad.rings.n fun i => ebox_TRr (x.Ad.rings.get i))]) fun l => ⟨dI (at_ l 2), dI (at_ l 3), { d_TFa (at_ l 4) with rings := ⟨(Rg (fd (at_ l 4) 2)).nil, (Rg (fd (at_ l 4) 2)).n, (RN dbox_TRr (at_ l 6)).get⟩ }, d_TSt (at_ l 5)⟩
abbrev w_f1_5 (x : X_f1_5) : TFa := (x.Ad)
abbrev w_f1_9 (x : X_f1_9) : TFa := (x.Ad)
abbrev w_f1_10 (x : X_f1_10) : TFa := (x.Ad)
def tt_f1_10 (D_f1_10 : AS X_f1_10 RR_f1) (x : X_f1_10) : TT Tryz.prog RR_f1 :=
 (.ite (B8 x.C1 x.TU)
 (.need (BQ x.C1 x.Ad.rings.n) <|
 (.need (((Nat.beq x.Ad.rings.n x.Ad.rings.n) && true) && (!(x.Ad.rings.get ((0 : Nat) + (Int.toNat x.C1))).nil)) <|
 (.call con_f1d (x.Ad.rings.get ((0 : Nat) + (Int.toNat x.C1))).x fun (y2 : R_f1d) =>
 (.need (true && (room (x.CO.AF.n + 1) 64)) <|
 (.need ((true && true) && (((Nat.beq x.Ad.rings.n x.Ad.rings.n) && (Nat.blt ((0 : Nat) + (Int.toNat x.C1)) x.Ad.rings.n)) && (!(x.Ad.rings.get ((0 : Nat) + (Int.toNat x.C1))).nil))) <|
 (.side (((fun v : Nat → V => v = v) (fun i3 => (cond (Nat.beq i3 ((0 : Nat) + (Int.toNat x.C1))) (V.ptr (Id.loc 54 0) List.nil) (V.Af (x.Ad.rings.get i3).nil (V.cons (V.cons (V.int IntKind.u64 (x.Ad.rings.get i3).x.AA.tail) (V.cons (V.A0 36 1 (x.Ad.rings.get i3).x.AA.AD.nil (x.Ad.rings.get i3).x.AA.AD.n (fun i4 => (V.int IntKind.u64 ((x.Ad.rings.get i3).x.AA.AD.get i4)))) V.unit)) (V.cons (V.Af (x.Ad.rings.get i3).x.s.nil (V.cons (V.A0 175 3 (x.Ad.rings.get i3).x.s.x.l.nil (x.Ad.rings.get i3).x.s.x.l.n (fun i4 => (V.cons (V.int IntKind.u64 ((x.Ad.rings.get i3).x.s.x.l.get i4).AQ) (V.cons (V.int IntKind.u64 ((x.Ad.rings.get i3).x.s.x.l.get i4).Value) (V.cons (V.int IntKind.i64 ((x.Ad.rings.get i3).x.s.x.l.get i4).Left) V.unit))))) (V.cons (V.int IntKind.i64 (x.Ad.rings.get i3).x.s.x.AO) V.unit))) (V.cons (V.int IntKind.u64 (x.Ad.rings.get i3).x.most) (V.cons (V.bool (x.Ad.rings.get i3).x.closed) V.unit)))))))) ∧ (((fun v : V => v = v) (V.cons (V.cons (V.int IntKind.u64 (x.Ad.rings.get ((0 : Nat) + (Int.toNat x.C1))).x.AA.tail) (V.cons (V.A0 36 1 (x.Ad.rings.get ((0 : Nat) + (Int.toNat x.C1))).x.AA.AD.nil (x.Ad.rings.get ((0 : Nat) + (Int.toNat x.C1))).x.AA.AD.n (fun i3 => (V.int IntKind.u64 ((x.Ad.rings.get ((0 : Nat) + (Int.toNat x.C1))).x.AA.AD.get i3)))) V.unit)) (V.cons (V.Af (x.Ad.rings.get ((0 : Nat) + (Int.toNat x.C1))).x.s.nil (V.cons (V.A0 175 3 (x.Ad.rings.get ((0 : Nat) + (Int.toNat x.C1))).x.s.x.l.nil (x.Ad.rings.get ((0 : Nat) + (Int.toNat x.C1))).x.s.x.l.n (fun i3 => (V.cons (V.int IntKind.u64 ((x.Ad.rings.get ((0 : Nat) + (Int.toNat x.C1))).x.s.x.l.get i3).AQ) (V.cons (V.int IntKind.u64 ((x.Ad.rings.get ((0 : Nat) + (Int.toNat x.C1))).x.s.x.l.get i3).Value) (V.cons (V.int IntKind.i64 ((x.Ad.rings.get ((0 : Nat) + (Int.toNat x.C1))).x.s.x.l.get i3).Left) V.unit))))) (V.cons (V.int IntKind.i64 (x.Ad.rings.get ((0 : Nat) + (Int.toNat x.C1))).x.s.x.AO) V.unit))) (V.cons (V.int IntKind.u64 (x.Ad.rings.get ((0 : Nat) + (Int.toNat x.C1))).x.most) (V.cons (V.bool (x.Ad.rings.get ((0 : Nat) + (Int.toNat x.C1))).x.closed) V.unit))))) ∧ ((fun v : V => v = v) (V.Af (x.Ad.rings.get ((0 : Nat) + (Int.toNat x.C1))).nil (V.cons (V.cons (V.int IntKind.u64 (x.Ad.rings.get ((0 : Nat) + (Int.toNat x.C1))).x.AA.tail) (V.cons (V.A0 36 1 (x.Ad.rings.get ((0 : Nat) + (Int.toNat x.C1))).x.AA.AD.nil (x.Ad.rings.get ((0 : Nat) + (Int.toNat x.C1))).x.AA.AD.n (fun i3 => (V.int IntKind.u64 ((x.Ad.rings.get ((0 : Nat) + (Int.toNat x.C1))).x.AA.AD.get i3)))) V.unit)) (V.cons (V.Af (x.Ad.rings.get ((0 : Nat) + (Int.toNat x.C1))).x.s.nil (V.cons (V.A0 175 3 (x.Ad.rings.get ((0 : Nat) + (Int.toNat x.C1))).x.s.x.l.nil (x.Ad.rings.get ((0 : Nat) + (Int.toNat x.C1))).x.s.x.l.n (fun i3 => (V.cons (V.int IntKind.u64 ((x.Ad.rings.get ((0 : Nat) + (Int.toNat x.C1))).x.s.x.l.get i3).AQ) (V.cons (V.int IntKind.u64 ((x.Ad.rings.get ((0 : Nat) + (Int.toNat x.C1))).x.s.x.l.get i3).Value) (V.cons (V.int IntKind.i64 ((x.Ad.rings.get ((0 : Nat) + (Int.toNat x.C1))).x.s.x.l.get i3).Left) V.unit))))) (V.cons (V.int IntKind.i64 (x.Ad.rings.get ((0 : Nat) + (Int.toNat x.C1))).x.s.x.AO) V.unit))) (V.cons (V.int IntKind.u64 (x.Ad.rings.get ((0 : Nat) + (Int.toNat x.C1))).x.most) (V.cons (V.bool (x.Ad.rings.get ((0 : Nat) + (Int.toNat x.C1))).x.closed) V.unit)))))))) <|
 (.Ab S_f1_10 D_f1_10 (X_f1_10.mk x.TU (IntKind.i64.wrap (x.C1 + 1)) x.Ad (TSt.mk x.CO.AB (Sl.mk (cond (Nat.beq 1 0) x.CO.AF.nil false) (x.CO.AF.n + 1) (fun i3 => (TRs.mk (cond (Nat.blt i3 x.CO.AF.n) (x.CO.AF.get i3).A6 y2.A6) (Sl.mk (cond (Nat.blt i3 x.CO.AF.n) (x.CO.AF.get i3).Aj.nil y2.Aj.nil) (cond (Nat.blt i3 x.CO.AF.n) (x.CO.AF.get i3).Aj.n y2.Aj.n) (fun i4 => (cond (Nat.blt i3 x.CO.AF.n) ((x.CO.AF.get i3).Aj.get i4) (y2.Aj.get i4)))) (cond (Nat.blt i3 x.CO.AF.n) (x.CO.AF.get i3).Bj y2.Bj) (Sl.mk (cond (Nat.blt i3 x.CO.AF.n) (x.CO.AF.get i3).A4.nil y2.A4.nil) (cond (Nat.blt i3 x.CO.AF.n) (x.CO.AF.get i3).A4.n y2.A4.n) (fun i4 => (TSo.mk (cond (Nat.blt i3 x.CO.AF.n) ((x.CO.AF.get i3).A4.get i4).AQ (y2.A4.get i4).AQ) (cond (Nat.blt i3 x.CO.AF.n) ((x.CO.AF.get i3).A4.get i4).Value (y2.A4.get i4).Value) (cond (Nat.blt i3 x.CO.AF.n) ((x.CO.AF.get i3).A4.get i4).Left (y2.A4.get i4).Left))))))) x.CO.ED x.CO.Reads x.CO.Bt)))))))))
 (.need ((true && true) && (Nat.beq x.Ad.rings.n x.Ad.rings.n)) <|
 (.ret (x.CO, x.Ad))))
theorem sd_f1_10 (D_f1_10 : AS X_f1_10 RR_f1) (x : X_f1_10) : (tt_f1_10 D_f1_10 x).AJ :=
 (TT.sI (TT.sN (TT.sN (TT.sC fun _ => (TT.sN (TT.sN (TT.sS ⟨rfl, ⟨rfl, rfl⟩⟩ TT.sJ)))))) (TT.sN TT.sR))
theorem roT_f1_10 (D_f1_10 : AS X_f1_10 RR_f1) (r10 : ∀ x y, D_f1_10.rel x y → p_f1 y = w_f1_10 x) (x : X_f1_10) : TT.Ro p_f1 (w_f1_10 x) (tt_f1_10 D_f1_10 x) :=
 (TT.rI (TT.rN (TT.rN (TT.rC fun _ => (TT.rN (TT.rN (TT.rS (TT.rJ (r10 _)))))))) (TT.rN (TT.rR rfl)))
def D_f1_10 : AS X_f1_10 RR_f1 := AS.loop tt_f1_10
theorem ok_f1_10 : AX J_f1 S_f1_10 D_f1_10 :=
 BG fun D_f1_10 h_10 => lk mxk (lbc h_10 rfl lbn) (sd_f1_10 D_f1_10)
theorem ro_f1_10 : ∀ x y, D_f1_10.rel x y → p_f1 y = w_f1_10 x :=
 Js fun D_f1_10 r10 => roT_f1_10 D_f1_10 r10
def tt_f1_9 (x : X_f1_9) : TT Tryz.prog RR_f1 :=
 (.Ab S_f1_10 D_f1_10 (X_f1_10.mk ((x.Ad.rings.n : Nat) : Int) 0 x.Ad x.CO))
theorem sd_f1_9 (x : X_f1_9) : (tt_f1_9 x).AJ :=
 TT.sJ
theorem roT_f1_9 (x : X_f1_9) : TT.Ro p_f1 (w_f1_9 x) (tt_f1_9 x) :=
 (TT.rJ (ro_f1_10 _))
def D_f1_9 : AS X_f1_9 RR_f1 := .of tt_f1_9
theorem ok_f1_9 : AX J_f1 S_f1_9 D_f1_9 :=
 lk mxk (lbc ok_f1_10 rfl lbn) sd_f1_9
theorem ro_f1_9 : ∀ x y, D_f1_9.rel x y → p_f1 y = w_f1_9 x :=
 roT_f1_9 
def tt_f1_5 (D_f1_5 : AS X_f1_5 RR_f1) (x : X_f1_5) : TT Tryz.prog RR_f1 :=
 (.ite (B8 x.ER x.MX)
 (.need (BQ x.ER x.CO.AB.n) <|
 (.need ((Nat.beq x.CO.AB.n x.CO.AB.n) && true) <|
 (.call con_f1q (x.CO.AB.get ((0 : Nat) + (Int.toNat x.ER))).Seen fun (y2 : R_f1q) =>
 (.need (BQ x.ER x.CO.AB.n) <|
 (.need ((Nat.beq x.CO.AB.n x.CO.AB.n) && true) <|
 (.need ((true && true) && (Nat.beq x.CO.AB.n x.CO.AB.n)) <|
 (.Ab S_f1_5 D_f1_5 (X_f1_5.mk x.MX (IntKind.i64.wrap (x.ER + 1)) x.Ad (TSt.mk (Sl.mk x.CO.AB.nil x.CO.AB.n (fun i3 => (TTh.mk (cond (Nat.beq i3 ((0 : Nat) + (Int.toNat x.ER))) (x.CO.AB.get ((0 : Nat) + (Int.toNat x.ER))).At (x.CO.AB.get i3).At) (cond (Nat.beq i3 ((0 : Nat) + (Int.toNat x.ER))) (x.CO.AB.get ((0 : Nat) + (Int.toNat x.ER))).Phase (x.CO.AB.get i3).Phase) (cond (Nat.beq i3 ((0 : Nat) + (Int.toNat x.ER))) (x.CO.AB.get ((0 : Nat) + (Int.toNat x.ER))).Ring (x.CO.AB.get i3).Ring) (cond (Nat.beq i3 ((0 : Nat) + (Int.toNat x.ER))) (x.CO.AB.get ((0 : Nat) + (Int.toNat x.ER))).Status (x.CO.AB.get i3).Status) (cond (Nat.beq i3 ((0 : Nat) + (Int.toNat x.ER))) (x.CO.AB.get ((0 : Nat) + (Int.toNat x.ER))).AG (x.CO.AB.get i3).AG) (fun i4 => (cond (Nat.beq i3 ((0 : Nat) + (Int.toNat x.ER))) ((x.CO.AB.get ((0 : Nat) + (Int.toNat x.ER))).Ao i4) ((x.CO.AB.get i3).Ao i4))) (Sl.mk (cond (Nat.beq i3 ((0 : Nat) + (Int.toNat x.ER))) y2.nil (x.CO.AB.get i3).Seen.nil) (cond (Nat.beq i3 ((0 : Nat) + (Int.toNat x.ER))) y2.n (x.CO.AB.get i3).Seen.n) (fun i4 => (cond (Nat.beq i3 ((0 : Nat) + (Int.toNat x.ER))) (y2.get i4) ((x.CO.AB.get i3).Seen.get i4))))))) x.CO.AF x.CO.ED x.CO.Reads x.CO.Bt)))))))))
 (.side (∀ i2 : Nat, ((i2 < x.CO.AB.n) → ((true && (true && (true && (true && (true && ((true && (true && (true && (true && (true && (true && (true && (true && true)))))))) && (true && true))))))) = true))) <|
 (.Ab S_f1_9 D_f1_9 (X_f1_9.mk x.Ad x.CO))))
theorem sd_f1_5 (D_f1_5 : AS X_f1_5 RR_f1) (x : X_f1_5) : (tt_f1_5 D_f1_5 x).AJ :=
 (TT.sI (TT.sN (TT.sN (TT.sC fun _ => (TT.sN (TT.sN (TT.sN TT.sJ)))))) (TT.sS (fun _ _ => rfl) TT.sJ))
theorem roT_f1_5 (D_f1_5 : AS X_f1_5 RR_f1) (r5 : ∀ x y, D_f1_5.rel x y → p_f1 y = w_f1_5 x) (x : X_f1_5) : TT.Ro p_f1 (w_f1_5 x) (tt_f1_5 D_f1_5 x) :=
 (TT.rI (TT.rN (TT.rN (TT.rC fun _ => (TT.rN (TT.rN (TT.rN (TT.rJ (r5 _)))))))) (TT.rS (TT.rJ (ro_f1_9 _))))
def D_f1_5 : AS X_f1_5 RR_f1 := AS.loop tt_f1_5
theorem ok_f1_5 : AX J_f1 S_f1_5 D_f1_5 :=
 BG fun D_f1_5 h_5 => lk mxk (lbc h_5 rfl (lbc ok_f1_10 rfl (lbc ok_f1_9 rfl lbn))) (sd_f1_5 D_f1_5)
theorem ro_f1_5 : ∀ x y, D_f1_5.rel x y → p_f1 y = w_f1_5 x :=
 Js fun D_f1_5 r5 => roT_f1_5 D_f1_5 r5
def tt_f1 (x : X_f1) : TT Tryz.prog RR_f1 :=
 (.call con_fg (Ar.mk x.threads.n x.threads.get) fun (y1 : R_fg) =>
 (.need ((true && true) && (Nat.beq x.threads.n x.threads.n)) <|
 (.need ((true && true) && (Nat.beq y1.n y1.n)) <|
 (.Ab S_f1_5 D_f1_5 (X_f1_5.mk ((y1.n : Nat) : Int) 0 x (TSt.mk y1 (Sl.mk true 0 (fun _i2 => (TRs.mk 0 (Sl.mk true 0 (fun _i3 => (0 : Int))) false (Sl.mk true 0 (fun _i3 => (TSo.mk 0 0 0)))))) x.now x.reads x.ended))))))
theorem sd_f1 (x : X_f1) : (tt_f1 x).AJ :=
 (TT.sC fun _ => (TT.sN (TT.sN TT.sJ)))
theorem roT_f1 (x : X_f1) : TT.Ro p_f1 (w_f1 x) (tt_f1 x) :=
 (TT.rC fun _ => (TT.rN (TT.rN (TT.rJ (ro_f1_5 _)))))
def D_f1 : AS X_f1 R_f1 := .ro (.of tt_f1) (fun y => (y.1)) (fun y x => (y, x)) fun x y h => congrArg (fun o => (y.1, o)) (roT_f1 x y h)
def con_f1 : BN Tryz.prog :=
 DC 17 J_f1 S_f1 (.of tt_f1) D_f1 (fun y x => (y, x)) (fun y => e_TSt y) 1 1 [.any] (lk mxk (lbc ok_f1_10 rfl (lbc ok_f1_9 rfl (lbc ok_f1_5 rfl lbn))) sd_f1) (fun x => ⟨(nu_e_TFa : ∀ y, (e_TFa y).Cd) (x), trivial⟩)
abbrev X_f17 : Type := (Sl Int) × TEv × TFa
abbrev R_f17 : Type := TEv
abbrev RR_f17 : Type := TEv × TFa
abbrev p_f17 (y : RR_f17) : TFa := y.2
abbrev w_f17 (x : X_f17) : TFa := x.2.2
def J_f17 : BT Tryz.prog :=
 Bg Tryz.prog Tryz.f82 30 [(22, 1)] [] [] [] [.any] [sh_TFa] [con_f1] RR_f17 [] fun y => [e_TEv y.1, e_TFa y.2]
def S_f17 : AR :=
 Aq Tryz.f82 3 1 X_f17 (fun x => [(V.ptr (.par 0) []), BL x.1, e_TEv x.2.1, e_TFa x.2.2]) fun l => (Bi (at_ l 1), d_TEv (at_ l 2), d_TFa (at_ l 3))
structure X_f17_5 where
 Ba : (Sl Int)
 Ad : TFa
 FO : TEv
 Jr : TEv
 IV : TSt
def S_f17_5 : AR :=
 Ai Tryz.f82 5 [(1, BU), (5, .any), (6, .any), (7, .any)] [sh_TFa] [(.loc 5 0, .any), (.loc 6 0, .any), (.loc 7 0, sh_TSt)] X_f17_5 (fun x => [BL x.Ba, (V.ptr (.loc 5 0) []), (V.ptr (.loc 6 0) []), (V.ptr (.loc 7 0) []), e_TFa x.Ad, e_TEv x.FO, e_TEv x.Jr, e_TSt x.IV]) fun l => ⟨Bi (at_ l 0), d_TFa (at_ l 4), d_TEv (at_ l 5), d_TEv (at_ l 6), d_TSt (at_ l 7)⟩
abbrev w_f17_5 (x : X_f17_5) : TFa := (x.Ad)
def tt_f17_5 (x : X_f17_5) : TT Tryz.prog RR_f17 :=
 (.need (BQ x.IV.Reads x.Ba.n) <|
 (.ret ((TEv.mk x.FO.Thread 10 x.FO.Ring x.FO.AG (x.Ba.get (Int.toNat x.IV.Reads))), x.Ad)))
theorem sd_f17_5 (x : X_f17_5) : (tt_f17_5 x).AJ :=
 (TT.sN TT.sR)
theorem roT_f17_5 (x : X_f17_5) : TT.Ro p_f17 (w_f17_5 x) (tt_f17_5 x) :=
 (TT.rN (TT.rR rfl))
def D_f17_5 : AS X_f17_5 RR_f17 := .of tt_f17_5
theorem ok_f17_5 : AX J_f17 S_f17_5 D_f17_5 :=
 lk mxk lbn sd_f17_5
theorem ro_f17_5 : ∀ x y, D_f17_5.rel x y → p_f17 y = w_f17_5 x :=
 roT_f17_5 
def tt_f17 (x : X_f17) : TT Tryz.prog RR_f17 :=
 (.call con_f1 x.snd.snd fun (y1 : R_f1) =>
 (.ite y1.Bt
 (.ret ((TEv.mk x.snd.fst.Thread 11 x.snd.fst.Ring x.snd.fst.AG x.snd.fst.Value), x.snd.snd))
 (.ite (B6 (IntKind.u64.wrap ((x.fst.n : Nat) : Int)) y1.Reads)
 (.ret ((TEv.mk x.snd.fst.Thread 11 x.snd.fst.Ring x.snd.fst.AG x.snd.fst.Value), x.snd.snd))
 (.Ab S_f17_5 D_f17_5 (X_f17_5.mk x.fst x.snd.snd x.snd.fst (TEv.mk 0 0 0 0 0) y1)))))
theorem sd_f17 (x : X_f17) : (tt_f17 x).AJ :=
 (TT.sC fun _ => (TT.sI TT.sR (TT.sI TT.sR TT.sJ)))
theorem roT_f17 (x : X_f17) : TT.Ro p_f17 (w_f17 x) (tt_f17 x) :=
 (TT.rC fun _ => (TT.rI (TT.rR rfl) (TT.rI (TT.rR rfl) (TT.rJ (ro_f17_5 _)))))
def D_f17 : AS X_f17 R_f17 := .ro (.of tt_f17) (fun y => (y.1)) (fun y x => (y, x.2.2)) fun x y h => congrArg (fun o => (y.1, o)) (roT_f17 x y h)
def con_f17 : BN Tryz.prog :=
 DC 82 J_f17 S_f17 (.of tt_f17) D_f17 (fun y x => (y, x.2.2)) (fun y => e_TEv y) 3 1 [.any, BU, .any] (lk mxk (lbc ok_f17_5 rfl lbn) sd_f17) (fun x => ⟨(nu_e_TFa : ∀ y, (e_TFa y).Cd) (x.2.2), trivial⟩)
abbrev QL : Type := (Sl ByteArray)
def Tz : QL → V := (Lu none 1 V.str)
def dsl_str : V → QL := (LU dS)
def Tu : Sh := (.sl none 1 (V.str (dS .undef)))
abbrev X_f35 : Type := Unit
abbrev R_f35 : Type := (Sl ByteArray)
def J_f35 : BT Tryz.prog :=
 Bg Tryz.prog Tryz.f184 2 [] [] [] [.Eg 0] [Tu] [] [] R_f35 [] fun y => [Tz y]
def S_f35 : AR :=
 Aq Tryz.f184 0 0 X_f35 (fun _x => []) fun _l => ()
def tt_f35 (_x : X_f35) : TT Tryz.prog R_f35 :=
 (.ret (Sl.mk false 15 (fun i1 => (cond (Nat.beq i1 0) (ByteArray.mk #[99, 108, 97, 105, 109]) (cond (Nat.beq i1 1) (ByteArray.mk #[112, 117, 98, 108, 105, 115, 104]) (cond (Nat.beq i1 2) (ByteArray.mk #[116, 97, 107, 101]) (cond (Nat.beq i1 3) (ByteArray.mk #[114, 101, 108, 101, 97, 115, 101]) (cond (Nat.beq i1 4) (ByteArray.mk #[110, 111]) (cond (Nat.beq i1 5) (ByteArray.mk #[115, 104, 117, 116]) (cond (Nat.beq i1 6) (ByteArray.mk #[116, 105, 109, 101]) (cond (Nat.beq i1 7) (ByteArray.mk #[99, 108, 111, 99, 107]) (cond (Nat.beq i1 8) (ByteArray.mk #[100, 114, 97, 119]) (cond (Nat.beq i1 9) (ByteArray.mk #[114, 101, 97, 100]) (cond (Nat.beq i1 10) (ByteArray.mk #[101, 110, 100]) (cond (Nat.beq i1 11) (ByteArray.mk #[115, 101, 101]) (cond (Nat.beq i1 12) (ByteArray.mk #[99, 108, 111, 115, 101]) (cond (Nat.beq i1 13) (ByteArray.mk #[104, 97, 108, 116]) (ByteArray.mk #[115, 112, 105, 110]))))))))))))))))))
theorem sd_f35 (x : X_f35) : (tt_f35 x).AJ :=
 TT.sR
def D_f35 : AS X_f35 R_f35 := .of tt_f35
def con_f35 : BN Tryz.prog :=
 CY 184 J_f35 S_f35 D_f35 0 0 [] (lk mxk lbn sd_f35)
abbrev X_f21 : Type := Int
abbrev R_f21 : Type := ByteArray
def J_f21 : BT Tryz.prog :=
 Bg Tryz.prog Tryz.f159 14 [] [] [] [] [.any] [] [con_f35] R_f21 [] fun y => [V.str y]
def S_f21 : AR :=
 Aq Tryz.f159 1 0 X_f21 (fun x => [(V.int .i64) x]) fun l => (dI (at_ l 0))
structure X_f21_3 where
 PG : Int
def S_f21_3 : AR :=
 Ai Tryz.f159 3 [(0, .any)] [] [] X_f21_3 (fun x => [(V.int .i64) x.PG]) fun l => ⟨dI (at_ l 0)⟩
def tt_f21_3 (x : X_f21_3) : TT Tryz.prog R_f21 :=
 (.call con_f35 PUnit.unit fun (y1 : R_f35) =>
 (.need (BQ (IntKind.i64.wrap (x.PG - 1)) y1.n) <|
 (.ret (y1.get (Int.toNat (IntKind.i64.wrap (x.PG - 1)))))))
theorem sd_f21_3 (x : X_f21_3) : (tt_f21_3 x).AJ :=
 (TT.sC fun _ => (TT.sN TT.sR))
def D_f21_3 : AS X_f21_3 R_f21 := .of tt_f21_3
theorem ok_f21_3 : AX J_f21 S_f21_3 D_f21_3 :=
 lk mxk lbn sd_f21_3
def tt_f21 (x : X_f21) : TT Tryz.prog R_f21 :=
 (.ite (B8 x 1)
 (.ret (ByteArray.mk #[]))
 (.ite (B8 15 x)
 (.ret (ByteArray.mk #[]))
 (.Ab S_f21_3 D_f21_3 (X_f21_3.mk x))))
theorem sd_f21 (x : X_f21) : (tt_f21 x).AJ :=
 (TT.sI TT.sR (TT.sI TT.sR TT.sJ))
def D_f21 : AS X_f21 R_f21 := .of tt_f21
def con_f21 : BN Tryz.prog :=
 CY 159 J_f21 S_f21 D_f21 1 0 [.any] (lk mxk (lbc ok_f21_3 rfl lbn) sd_f21)
abbrev X_f2c : Type := Int
abbrev R_f2c : Type := Bool
def J_f2c : BT Tryz.prog :=
 Bg Tryz.prog Tryz.f186 13 [] [] [] [] [.any] [] [] R_f2c [] fun y => [V.bool y]
def S_f2c : AR :=
 Aq Tryz.f186 1 0 X_f2c (fun x => [(V.int .i64) x]) fun l => (dI (at_ l 0))
def tt_f2c (x : X_f2c) : TT Tryz.prog R_f2c :=
 (.ite (B6 1 x)
 (.ite (B6 x 4)
 (.ret true)
 (.ret (Ae x 13)))
 (.ret (Ae x 13)))
theorem sd_f2c (x : X_f2c) : (tt_f2c x).AJ :=
 (TT.sI (TT.sI TT.sR TT.sR) TT.sR)
def D_f2c : AS X_f2c R_f2c := .of tt_f2c
def con_f2c : BN Tryz.prog :=
 CY 186 J_f2c S_f2c D_f2c 1 0 [.any] (lk mxk lbn sd_f2c)
abbrev X_f2m : Type := Int
abbrev R_f2m : Type := Bool
def J_f2m : BT Tryz.prog :=
 Bg Tryz.prog Tryz.f185 13 [] [] [] [] [.any] [] [con_f2c] R_f2m [] fun y => [V.bool y]
def S_f2m : AR :=
 Aq Tryz.f185 1 0 X_f2m (fun x => [(V.int .i64) x]) fun l => (dI (at_ l 0))
def tt_f2m (x : X_f2m) : TT Tryz.prog R_f2m :=
 (.call con_f2c x fun (y1 : R_f2c) =>
 (.ite y1
 (.ret true)
 (.ite (B6 5 x)
 (.ret (B6 x 7))
 (.ret false))))
theorem sd_f2m (x : X_f2m) : (tt_f2m x).AJ :=
 (TT.sC fun _ => (TT.sI TT.sR (TT.sI TT.sR TT.sR)))
def D_f2m : AS X_f2m R_f2m := .of tt_f2m
def con_f2m : BN Tryz.prog :=
 CY 185 J_f2m S_f2m D_f2m 1 0 [.any] (lk mxk lbn sd_f2m)
abbrev X_f2t : Type := Int
abbrev R_f2t : Type := Bool
def J_f2t : BT Tryz.prog :=
 Bg Tryz.prog Tryz.f187 13 [] [] [] [] [.any] [] [] R_f2t [] fun y => [V.bool y]
def S_f2t : AR :=
 Aq Tryz.f187 1 0 X_f2t (fun x => [(V.int .i64) x]) fun l => (dI (at_ l 0))
def tt_f2t (x : X_f2t) : TT Tryz.prog R_f2t :=
 (.ite (B6 8 x)
 (.ite (B6 x 10)
 (.ret true)
 (.ret (Ae x 12)))
 (.ret (Ae x 12)))
theorem sd_f2t (x : X_f2t) : (tt_f2t x).AJ :=
 (TT.sI (TT.sI TT.sR TT.sR) TT.sR)
def D_f2t : AS X_f2t R_f2t := .of tt_f2t
def con_f2t : BN Tryz.prog :=
 CY 187 J_f2t S_f2t D_f2t 1 0 [.any] (lk mxk lbn sd_f2t)
abbrev X_fv : Type := TEv
abbrev R_fv : Type := TEv
def J_fv : BT Tryz.prog :=
 Bg Tryz.prog Tryz.f160 19 [] [] [] [] [.any] [] [con_f2m, con_f2c, con_f2t] R_fv [] fun y => [e_TEv y]
def S_fv : AR :=
 Aq Tryz.f160 1 0 X_fv (fun x => [e_TEv x]) fun l => (d_TEv (at_ l 0))
structure X_fv_3 where
 PA : TEv
 CO : TEv
def S_fv_3 : AR :=
 Ai Tryz.f160 3 (an [1, 2]) [] [(.loc 1 0, .any), (.loc 2 0, .any)] X_fv_3 (fun x => [(V.ptr (.loc 1 0) []), (V.ptr (.loc 2 0) []), e_TEv x.PA, e_TEv x.CO]) fun l => ⟨d_TEv (at_ l 2), d_TEv (at_ l 3)⟩
structure X_fv_5 where
 PA : TEv
 CO : TEv
def S_fv_5 : AR :=
 Ai Tryz.f160 5 (an [1, 2]) [] [(.loc 1 0, .any), (.loc 2 0, .any)] X_fv_5 (fun x => [(V.ptr (.loc 1 0) []), (V.ptr (.loc 2 0) []), e_TEv x.PA, e_TEv x.CO]) fun l => ⟨d_TEv (at_ l 2), d_TEv (at_ l 3)⟩
def tt_fv_5 (x : X_fv_5) : TT Tryz.prog R_fv :=
 (.call con_f2t x.PA.Kind fun (y1 : R_f2t) =>
 (.ite (!y1)
 (.ret (TEv.mk x.PA.Thread x.PA.Kind x.PA.Ring x.PA.AG 0))
 (.ret x.PA)))
theorem sd_fv_5 (x : X_fv_5) : (tt_fv_5 x).AJ :=
 (TT.sC fun _ => (TT.sI TT.sR TT.sR))
def D_fv_5 : AS X_fv_5 R_fv := .of tt_fv_5
theorem ok_fv_5 : AX J_fv S_fv_5 D_fv_5 :=
 lk mxk lbn sd_fv_5
def tt_fv_3 (x : X_fv_3) : TT Tryz.prog R_fv :=
 (.call con_f2c x.PA.Kind fun (y1 : R_f2c) =>
 (.ite (!y1)
 (.Ab S_fv_5 D_fv_5 (X_fv_5.mk (TEv.mk x.PA.Thread x.PA.Kind x.PA.Ring 0 x.PA.Value) x.CO))
 (.Ab S_fv_5 D_fv_5 (X_fv_5.mk x.PA x.CO))))
theorem sd_fv_3 (x : X_fv_3) : (tt_fv_3 x).AJ :=
 (TT.sC fun _ => (TT.sI TT.sJ TT.sJ))
def D_fv_3 : AS X_fv_3 R_fv := .of tt_fv_3
theorem ok_fv_3 : AX J_fv S_fv_3 D_fv_3 :=
 lk mxk (lbc ok_fv_5 rfl lbn) sd_fv_3
def tt_fv (x : X_fv) : TT Tryz.prog R_fv :=
 (.call con_f2m x.Kind fun (y1 : R_f2m) =>
 (.ite (!y1)
 (.Ab S_fv_3 D_fv_3 (X_fv_3.mk (TEv.mk x.Thread x.Kind 0 x.AG x.Value) (TEv.mk 0 0 0 0 0)))
 (.Ab S_fv_3 D_fv_3 (X_fv_3.mk x (TEv.mk 0 0 0 0 0)))))
theorem sd_fv (x : X_fv) : (tt_fv x).AJ :=
 (TT.sC fun _ => (TT.sI TT.sJ TT.sJ))
def D_fv : AS X_fv R_fv := .of tt_fv
def con_fv : BN Tryz.prog :=
 CY 160 J_fv S_fv D_fv 1 0 [.any] (lk mxk (lbc ok_fv_5 rfl (lbc ok_fv_3 rfl lbn)) sd_fv)
abbrev X_f2n : Type := TEv
abbrev R_f2n : Type := Bool
def J_f2n : BT Tryz.prog :=
 Bg Tryz.prog Tryz.f112 38 [(1, 3)] [] [] [] [.any] [] [con_f21, con_fv] R_f2n [] fun y => [V.bool y]
def S_f2n : AR :=
 Aq Tryz.f112 1 0 X_f2n (fun x => [e_TEv x]) fun l => (d_TEv (at_ l 0))
def tt_f2n (x : X_f2n) : TT Tryz.prog R_f2n :=
 (.call con_f21 x.Kind fun (y1 : R_f21) =>
 (.ite (!(seq y1 (ByteArray.mk #[])))
 (.call con_fv x fun (y2 : R_fv) =>
 (.ite ((Ae x.Thread y2.Thread) && ((Ae x.Kind y2.Kind) && ((Ae x.Ring y2.Ring) && ((Ae x.AG y2.AG) && ((Ae x.Value y2.Value) && true)))))
 (.ite (B6 0 x.Thread)
 (.ite (B8 x.Thread 8)
 (.ite (B6 0 x.Ring)
 (.ite (B8 x.Ring 8)
 (.ret (B8 x.AG 4611686018427387904))
 (.ret false))
 (.ret false))
 (.ret false))
 (.ret false))
 (.ret false)))
 (.ret false)))
theorem sd_f2n (x : X_f2n) : (tt_f2n x).AJ :=
 (TT.sC fun _ => (TT.sI (TT.sC fun _ => (TT.sI (TT.sI (TT.sI (TT.sI (TT.sI TT.sR TT.sR) TT.sR) TT.sR) TT.sR) TT.sR)) TT.sR))
def D_f2n : AS X_f2n R_f2n := .of tt_f2n
def con_f2n : BN Tryz.prog :=
 CY 112 J_f2n S_f2n D_f2n 1 0 [.any] (lk mxk lbn sd_f2n)
abbrev X_f2b : Type := Int
abbrev R_f2b : Type := Int
def J_f2b : BT Tryz.prog :=
 Bg Tryz.prog Tryz.f188 25 [] [] [] [] [.any] [] [] R_f2b [] fun y => [(V.int .i64) y]
def S_f2b : AR :=
 Aq Tryz.f188 1 0 X_f2b (fun x => [(V.int .i64) x]) fun l => (dI (at_ l 0))
def tt_f2b (x : X_f2b) : TT Tryz.prog R_f2b :=
 (.ite (Ae x 1)
 (.ret 1)
 (.ite (Ae x 2)
 (.ret 10)
 (.ite (Ae x 3)
 (.ret 2)
 (.ite (Ae x 4)
 (.ret 11)
 (.ite (Ae x 8)
 (.ret 4)
 (.ite (Ae x 9)
 (.ret 5)
 (.ite (Ae x 10)
 (.ret 6)
 (.ite (Ae x 11)
 (.ret 6)
 (.ite (Ae x 12)
 (.ret 7)
 (.ite (Ae x 13)
 (.ret 3)
 (.ite (Ae x 14)
 (.ret 8)
 (.ret 9))))))))))))
theorem sd_f2b (x : X_f2b) : (tt_f2b x).AJ :=
 (TT.sI TT.sR (TT.sI TT.sR (TT.sI TT.sR (TT.sI TT.sR (TT.sI TT.sR (TT.sI TT.sR (TT.sI TT.sR (TT.sI TT.sR (TT.sI TT.sR (TT.sI TT.sR (TT.sI TT.sR TT.sR)))))))))))
def D_f2b : AS X_f2b R_f2b := .of tt_f2b
def con_f2b : BN Tryz.prog :=
 CY 188 J_f2b S_f2b D_f2b 1 0 [.any] (lk mxk lbn sd_f2b)
end Go.Proofs.YtiamaibincaihaaGreat
end
