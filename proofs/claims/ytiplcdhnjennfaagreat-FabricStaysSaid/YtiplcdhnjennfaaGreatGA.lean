/- What functions of the program come to, part A: no statement is proved here. -/
import Derived.Test.YtiplcdhnjennfaaGreatM
import Derived.Test.YtiplcdhnjennfaaGreatProg
import Derived.KernelRfl
namespace Go.Proofs.YtiplcdhnjennfaaGreat
open Go Go.Vm Go.Proofs
set_option maxRecDepth 100000
theorem mxk : Tryz.prog.follows .mixedOrders = true := by kernel_rfl
def d_TRg (v : V) : TRg :=
  ⟨dI (fd v 0), dI (fd v 1), dI (fd v 2)⟩
def e_TRg (x : TRg) : V :=
  V.cons ((V.int .i64) x.Kind) (V.cons ((V.int .i64) x.Cap) (V.cons ((V.int .i64) x.Readers) (V.unit)))
theorem nu_e_TRg (x : TRg) : (e_TRg x).NoU := ⟨trivial, trivial, trivial, trivial⟩
abbrev Dsl_TRg : Type := (Sl TRg)
def esl_TRg : Dsl_TRg → V := (eSl none 3 e_TRg)
def dsl_TRg : V → Dsl_TRg := (dSl d_TRg)
def hsl_TRg : Sh := (.sl none 3 (e_TRg (d_TRg .undef)))
def d_TIn (v : V) : TIn :=
  ⟨dI (fd v 0), dI (fd v 1), dI (fd v 2), dI (fd v 3), dI (fd v 4), dI (fd v 5)⟩
def e_TIn (x : TIn) : V :=
  V.cons ((V.int .i64) x.Op) (V.cons ((V.int .i64) x.A) (V.cons ((V.int .i64) x.B) (V.cons ((V.int .i64) x.C) (V.cons ((V.int .i64) x.D) (V.cons ((V.int .u64) x.K) (V.unit))))))
theorem nu_e_TIn (x : TIn) : (e_TIn x).NoU := ⟨trivial, trivial, trivial, trivial, trivial, trivial, trivial⟩
abbrev Dsl_TIn : Type := (Sl TIn)
def esl_TIn : Dsl_TIn → V := (eSl none 6 e_TIn)
def dsl_TIn : V → Dsl_TIn := (dSl d_TIn)
def hsl_TIn : Sh := (.sl none 6 (e_TIn (d_TIn .undef)))
abbrev Dsl_sl_TIn : Type := (Sl (Sl TIn))
def esl_sl_TIn : Dsl_sl_TIn → V := (eSl none 1 esl_TIn)
def dsl_sl_TIn : V → Dsl_sl_TIn := (dSl dsl_TIn)
def hsl_sl_TIn : Sh := (.sl none 1 (esl_TIn (dsl_TIn .undef)))
structure TPg where
  Rings : (Sl TRg)
  Threads : (Sl (Sl TIn))
def d_TPg (v : V) : TPg :=
  ⟨dsl_TRg (fd v 0), dsl_sl_TIn (fd v 1)⟩
def e_TPg (x : TPg) : V :=
  V.cons (esl_TRg x.Rings) (V.cons (esl_sl_TIn x.Threads) (V.unit))
theorem nu_e_TPg (x : TPg) : (e_TPg x).NoU := ⟨trivial, trivial, trivial⟩
def sh_TPg : Sh := (.cons hsl_TRg (.cons hsl_sl_TIn .any))
abbrev X_f31 : Type := Unit
abbrev R_f31 : Type := TPg
noncomputable def J_f31 : Job Tryz.prog :=
  job Tryz.prog Tryz.f55 9 [] [] [] [] [sh_TPg] [] [] R_f31 [] fun y => [e_TPg y]
noncomputable def S_f31 : LabS :=
  lab0 Tryz.f55 0 0 X_f31 (fun _x => []) fun _l => ()
noncomputable def tt_f31 (_x : X_f31) : TT Tryz.prog R_f31 :=
 (.ret (TPg.mk (Sl.mk false 1 (fun _i1 => (TRg.mk 1 1 1))) (Sl.mk false 1 (fun _i1 => (Sl.mk false 3 (fun i2 => (TIn.mk (cond (Nat.beq i2 0) (1 : Int) (cond (Nat.beq i2 1) (18 : Int) (15 : Int))) (cond (Nat.beq i2 0) (1 : Int) (cond (Nat.beq i2 1) (1 : Int) (0 : Int))) (cond (Nat.beq i2 0) (0 : Int) (cond (Nat.beq i2 1) (2 : Int) (0 : Int))) (cond (Nat.beq i2 0) (0 : Int) (cond (Nat.beq i2 1) (0 : Int) (0 : Int))) (cond (Nat.beq i2 0) (0 : Int) (cond (Nat.beq i2 1) (0 : Int) (0 : Int))) (cond (Nat.beq i2 0) (5 : Int) (cond (Nat.beq i2 1) (0 : Int) (1 : Int))))))))))
theorem sd_f31 (x : X_f31) : (tt_f31 x).Sides :=
  TT.sR
noncomputable def D_f31 : Dyn X_f31 R_f31 := .of tt_f31
noncomputable def con_f31 : Con Tryz.prog :=
  mkCon 55 J_f31 S_f31 D_f31 D_f31 (fun _ _ h => h) 0 0 [] (by kernel_rfl) (by kernel_rfl) (by kernel_rfl) (lbk mxk lbn 4000 (fun x => by kernel_rfl) sd_f31) rfl rfl (fun _ => rfl) (by kernel_rfl) rfl (fun _ => rfl) (fun x y _ => by kernel_rfl)
abbrev X_f1u : Type := TRg
abbrev R_f1u : Type := Bool
noncomputable def J_f1u : Job Tryz.prog :=
  job Tryz.prog Tryz.f147 34 [(1, 3)] [] [] [] [.any] [] [] R_f1u [] fun y => [V.bool y]
noncomputable def S_f1u : LabS :=
  lab0 Tryz.f147 1 0 X_f1u (fun x => [e_TRg x]) fun l => (d_TRg (at_ l 0))
structure X_f1u_3 where
  r_1 : TRg
noncomputable def S_f1u_3 : LabS :=
  labAt Tryz.f147 3 [(1, .any)] [] [] X_f1u_3 (fun x => [(eVp e_TRg) x.r_1]) fun l => ⟨(dVp d_TRg) (at_ l 0)⟩
noncomputable def tt_f1u_3 (x : X_f1u_3) : TT Tryz.prog R_f1u :=
 (.ite (ieq x.r_1.Kind 1)
 (.ite (ieq x.r_1.Readers 1)
 (.ret true)
 (.ite (ieq x.r_1.Kind 2)
 (.ite (ile 1 x.r_1.Readers)
 (.ret (ile x.r_1.Readers 8))
 (.ret false))
 (.ret false)))
 (.ite (ieq x.r_1.Kind 2)
 (.ite (ile 1 x.r_1.Readers)
 (.ret (ile x.r_1.Readers 8))
 (.ret false))
 (.ret false)))
theorem sd_f1u_3 (x : X_f1u_3) : (tt_f1u_3 x).Sides :=
  (TT.sI (TT.sI TT.sR (TT.sI (TT.sI TT.sR TT.sR) TT.sR)) (TT.sI (TT.sI TT.sR TT.sR) TT.sR))
noncomputable def D_f1u_3 : Dyn X_f1u_3 R_f1u := .of tt_f1u_3
theorem ok_f1u_3 : LabOK J_f1u S_f1u_3 D_f1u_3 :=
  lbk mxk lbn 4000 (fun x => by kernel_rfl) sd_f1u_3
noncomputable def tt_f1u (x : X_f1u) : TT Tryz.prog R_f1u :=
 (.ite (ilt x.Cap 1)
 (.ret false)
 (.ite (ilt 64 x.Cap)
 (.ret false)
 (.jump S_f1u_3 D_f1u_3 (X_f1u_3.mk x))))
theorem sd_f1u (x : X_f1u) : (tt_f1u x).Sides :=
  (TT.sI TT.sR (TT.sI TT.sR TT.sJ))
noncomputable def D_f1u : Dyn X_f1u R_f1u := .of tt_f1u
noncomputable def con_f1u : Con Tryz.prog :=
  mkCon 147 J_f1u S_f1u D_f1u D_f1u (fun _ _ h => h) 1 0 [.any] (by kernel_rfl) (by kernel_rfl) (by kernel_rfl) (lbk mxk (lbc ok_f1u_3 rfl lbn) 4000 (fun x => by kernel_rfl) sd_f1u) rfl rfl (fun _ => rfl) (by kernel_rfl) rfl (fun _ => rfl) (fun x y _ => by kernel_rfl)
abbrev X_f2r : Type := Int
abbrev R_f2r : Type := Bool
noncomputable def J_f2r : Job Tryz.prog :=
  job Tryz.prog Tryz.f189 9 [] [] [] [] [.any] [] [] R_f2r [] fun y => [V.bool y]
noncomputable def S_f2r : LabS :=
  lab0 Tryz.f189 1 0 X_f2r (fun x => [(V.int .i64) x]) fun l => (dI (at_ l 0))
noncomputable def tt_f2r (x : X_f2r) : TT Tryz.prog R_f2r :=
 (.ite (ile 1 x)
 (.ret (ile x 17))
 (.ret false))
theorem sd_f2r (x : X_f2r) : (tt_f2r x).Sides :=
  (TT.sI TT.sR TT.sR)
noncomputable def D_f2r : Dyn X_f2r R_f2r := .of tt_f2r
noncomputable def con_f2r : Con Tryz.prog :=
  mkCon 189 J_f2r S_f2r D_f2r D_f2r (fun _ _ h => h) 1 0 [.any] (by kernel_rfl) (by kernel_rfl) (by kernel_rfl) (lbk mxk lbn 4000 (fun x => by kernel_rfl) sd_f2r) rfl rfl (fun _ => rfl) (by kernel_rfl) rfl (fun _ => rfl) (fun x y _ => by kernel_rfl)
structure TCl where
  a : Int
  b : Int
  c : Int
  d : Int
  k : Int
def d_TCl (v : V) : TCl :=
  ⟨dI (fd v 0), dI (fd v 1), dI (fd v 2), dI (fd v 3), dI (fd v 4)⟩
def e_TCl (x : TCl) : V :=
  V.cons ((V.int .i64) x.a) (V.cons ((V.int .i64) x.b) (V.cons ((V.int .i64) x.c) (V.cons ((V.int .i64) x.d) (V.cons ((V.int .u64) x.k) (V.unit)))))
theorem nu_e_TCl (x : TCl) : (e_TCl x).NoU := ⟨trivial, trivial, trivial, trivial, trivial, trivial⟩
abbrev X_f1t : Type := Int
abbrev R_f1t : Type := TCl × Bool
noncomputable def J_f1t : Job Tryz.prog :=
  job Tryz.prog Tryz.f198 39 [] [] [] [] [.any, .any] [] [con_f2r] R_f1t [] fun y => [V.tup (V.cons (e_TCl y.1) (V.cons (V.bool y.2) (V.unit)))]
noncomputable def S_f1t : LabS :=
  lab0 Tryz.f198 1 0 X_f1t (fun x => [(V.int .i64) x]) fun l => (dI (at_ l 0))
structure X_f1t_24 where
  op_0 : Int
  m_2 : TCl
noncomputable def S_f1t_24 : LabS :=
  labAt Tryz.f198 24 [(0, .any), (2, .any)] [] [(.loc 2 0, .any)] X_f1t_24 (fun x => [(V.int .i64) x.op_0, (V.ptr (.loc 2 0) []), e_TCl x.m_2]) fun l => ⟨dI (at_ l 0), d_TCl (at_ l 2)⟩
noncomputable def tt_f1t_24 (x : X_f1t_24) : TT Tryz.prog R_f1t :=
 (.call con_f2r x.op_0 fun (y1 : R_f2r) =>
 (.ret ((TCl.mk 7 7 7 0 0), y1)))
theorem sd_f1t_24 (x : X_f1t_24) : (tt_f1t_24 x).Sides :=
  (TT.sC fun _ => TT.sR)
noncomputable def D_f1t_24 : Dyn X_f1t_24 R_f1t := .of tt_f1t_24
theorem ok_f1t_24 : LabOK J_f1t S_f1t_24 D_f1t_24 :=
  lbk mxk lbn 4000 (fun x => by kernel_rfl) sd_f1t_24
noncomputable def tt_f1t (x : X_f1t) : TT Tryz.prog R_f1t :=
 (.ite (ieq x 1)
 (.ret ((TCl.mk 7 0 0 0 18446744073709551615), true))
 (.ite (ieq x 2)
 (.ret ((TCl.mk 7 7 0 0 0), true))
 (.ite (ieq x 23)
 (.ret ((TCl.mk 7 7 0 0 0), true))
 (.ite (ieq x 15)
 (.ret ((TCl.mk 0 0 0 0 256), true))
 (.ite (ieq x 16)
 (.ret ((TCl.mk 7 0 0 0 256), true))
 (.ite (ieq x 17)
 (.ret ((TCl.mk 7 0 0 0 256), true))
 (.ite (ieq x 18)
 (.ret ((TCl.mk 7 7 7 2 0), true))
 (.ite (ieq x 19)
 (.ret ((TCl.mk 7 7 7 2 7), true))
 (.ite (ieq x 20)
 (.ret ((TCl.mk 0 0 7 0 0), true))
 (.ite (ieq x 21)
 (.ret ((TCl.mk 7 0 0 0 0), true))
 (.ite (ieq x 22)
 (.ret ((TCl.mk 7 0 0 0 0), true))
 (.ite (ieq x 24)
 (.ret ((TCl.mk 7 0 0 0 0), true))
 (.ite (ieq x 25)
 (.ret ((TCl.mk 0 0 0 0 0), true))
 (.jump S_f1t_24 D_f1t_24 (X_f1t_24.mk x (TCl.mk 0 0 0 0 0))))))))))))))))
theorem sd_f1t (x : X_f1t) : (tt_f1t x).Sides :=
  (TT.sI TT.sR (TT.sI TT.sR (TT.sI TT.sR (TT.sI TT.sR (TT.sI TT.sR (TT.sI TT.sR (TT.sI TT.sR (TT.sI TT.sR (TT.sI TT.sR (TT.sI TT.sR (TT.sI TT.sR (TT.sI TT.sR (TT.sI TT.sR TT.sJ)))))))))))))
noncomputable def D_f1t : Dyn X_f1t R_f1t := .of tt_f1t
noncomputable def con_f1t : Con Tryz.prog :=
  mkCon 198 J_f1t S_f1t D_f1t D_f1t (fun _ _ h => h) 1 0 [.any] (by kernel_rfl) (by kernel_rfl) (by kernel_rfl) (lbk mxk (lbc ok_f1t_24 rfl lbn) 4000 (fun x => by kernel_rfl) sd_f1t) rfl rfl (fun _ => rfl) (by kernel_rfl) rfl (fun _ => rfl) (fun x y _ => by kernel_rfl)
abbrev X_f2s : Type := TIn
abbrev R_f2s : Type := Bool
noncomputable def J_f2s : Job Tryz.prog :=
  job Tryz.prog Tryz.f173 67 [(1, 3), (5, 1)] [] [] [] [.any] [] [con_f1t] R_f2s [] fun y => [V.bool y]
noncomputable def S_f2s : LabS :=
  lab0 Tryz.f173 1 0 X_f2s (fun x => [e_TIn x]) fun l => (d_TIn (at_ l 0))
noncomputable def tt_f2s (x : X_f2s) : TT Tryz.prog R_f2s :=
 (.call con_f1t x.Op fun (y1 : R_f1t) =>
 (.ite y1.snd
 (.ite (ile 0 x.A)
 (.ite (ile x.A y1.fst.a)
 (.ite (ile 0 x.B)
 (.ite (ile x.B y1.fst.b)
 (.ite (ile 0 x.C)
 (.ite (ile x.C y1.fst.c)
 (.ite (ile 0 x.D)
 (.ite (ile x.D y1.fst.d)
 (.ret (ile x.K y1.fst.k))
 (.ret false))
 (.ret false))
 (.ret false))
 (.ret false))
 (.ret false))
 (.ret false))
 (.ret false))
 (.ret false))
 (.ret false)))
theorem sd_f2s (x : X_f2s) : (tt_f2s x).Sides :=
  (TT.sC fun _ => (TT.sI (TT.sI (TT.sI (TT.sI (TT.sI (TT.sI (TT.sI (TT.sI (TT.sI TT.sR TT.sR) TT.sR) TT.sR) TT.sR) TT.sR) TT.sR) TT.sR) TT.sR) TT.sR))
noncomputable def D_f2s : Dyn X_f2s R_f2s := .of tt_f2s
noncomputable def con_f2s : Con Tryz.prog :=
  mkCon 173 J_f2s S_f2s D_f2s D_f2s (fun _ _ h => h) 1 0 [.any] (by kernel_rfl) (by kernel_rfl) (by kernel_rfl) (lbk mxk lbn 4000 (fun x => by kernel_rfl) sd_f2s) rfl rfl (fun _ => rfl) (by kernel_rfl) rfl (fun _ => rfl) (fun x y _ => by kernel_rfl)
abbrev X_f2t : Type := TIn
abbrev R_f2t : Type := Bool
noncomputable def J_f2t : Job Tryz.prog :=
  job Tryz.prog Tryz.f174 11 [(1, 3)] [] [] [] [.any] [] [] R_f2t [] fun y => [V.bool y]
noncomputable def S_f2t : LabS :=
  lab0 Tryz.f174 1 0 X_f2t (fun x => [e_TIn x]) fun l => (d_TIn (at_ l 0))
noncomputable def tt_f2t (x : X_f2t) : TT Tryz.prog R_f2t :=
 (.ite (ile 15 x.Op)
 (.ret (ile x.Op 17))
 (.ret false))
theorem sd_f2t (x : X_f2t) : (tt_f2t x).Sides :=
  (TT.sI TT.sR TT.sR)
noncomputable def D_f2t : Dyn X_f2t R_f2t := .of tt_f2t
noncomputable def con_f2t : Con Tryz.prog :=
  mkCon 174 J_f2t S_f2t D_f2t D_f2t (fun _ _ h => h) 1 0 [.any] (by kernel_rfl) (by kernel_rfl) (by kernel_rfl) (lbk mxk lbn 4000 (fun x => by kernel_rfl) sd_f2t) rfl rfl (fun _ => rfl) (by kernel_rfl) rfl (fun _ => rfl) (fun x y _ => by kernel_rfl)
abbrev X_f2q : Type := Int
abbrev R_f2q : Type := Bool
noncomputable def J_f2q : Job Tryz.prog :=
  job Tryz.prog Tryz.f181 13 [] [] [] [] [.any] [] [] R_f2q [] fun y => [V.bool y]
noncomputable def S_f2q : LabS :=
  lab0 Tryz.f181 1 0 X_f2q (fun x => [(V.int .i64) x]) fun l => (dI (at_ l 0))
noncomputable def tt_f2q (x : X_f2q) : TT Tryz.prog R_f2q :=
 (.ite (ieq x 18)
 (.ret true)
 (.ite (ieq x 19)
 (.ret true)
 (.ret (ieq x 20))))
theorem sd_f2q (x : X_f2q) : (tt_f2q x).Sides :=
  (TT.sI TT.sR (TT.sI TT.sR TT.sR))
noncomputable def D_f2q : Dyn X_f2q R_f2q := .of tt_f2q
noncomputable def con_f2q : Con Tryz.prog :=
  mkCon 181 J_f2q S_f2q D_f2q D_f2q (fun _ _ h => h) 1 0 [.any] (by kernel_rfl) (by kernel_rfl) (by kernel_rfl) (lbk mxk lbn 4000 (fun x => by kernel_rfl) sd_f2q) rfl rfl (fun _ => rfl) (by kernel_rfl) rfl (fun _ => rfl) (fun x y _ => by kernel_rfl)
abbrev X_f2u : Type := TPg × TIn × Int
abbrev R_f2u : Type := Int
noncomputable def J_f2u : Job Tryz.prog :=
  job Tryz.prog Tryz.f148 50 [(3, 3), (4, 3)] [] [] [] [.any] [] [con_f2q, con_f2t, con_f2s] R_f2u [] fun y => [(V.int .i64) y]
noncomputable def S_f2u : LabS :=
  lab0 Tryz.f148 3 0 X_f2u (fun x => [e_TPg x.1, e_TIn x.2.1, (V.int .i64) x.2.2]) fun l => (d_TPg (at_ l 0), d_TIn (at_ l 1), dI (at_ l 2))
noncomputable def tt_f2u (x : X_f2u) : TT Tryz.prog R_f2u :=
 (.call con_f2s x.snd.fst fun (y1 : R_f2s) =>
 (.ite (!y1)
 (.ret 6)
 (.call con_f2t x.snd.fst fun (y2 : R_f2t) =>
 (.ite y2
 (.ite (ilt (IntKind.u64.wrap x.snd.snd) x.snd.fst.K)
 (.ret 5)
 (.call con_f2q x.snd.fst.Op fun (y3 : R_f2q) =>
 (.ite y3
 (.ite (ile ((x.fst.Rings.n : Nat) : Int) x.snd.fst.C)
 (.ret 7)
 (.ite (ieq x.snd.fst.Op 19)
 (.need (inb x.snd.fst.C x.fst.Rings.n) <|
 (.ite (ile (IntKind.u64.wrap (x.fst.Rings.get (Int.toNat x.snd.fst.C)).Readers) x.snd.fst.K)
 (.ret 7)
 (.ret 0)))
 (.ret 0)))
 (.ite (ieq x.snd.fst.Op 19)
 (.need (inb x.snd.fst.C x.fst.Rings.n) <|
 (.ite (ile (IntKind.u64.wrap (x.fst.Rings.get (Int.toNat x.snd.fst.C)).Readers) x.snd.fst.K)
 (.ret 7)
 (.ret 0)))
 (.ret 0)))))
 (.call con_f2q x.snd.fst.Op fun (y3 : R_f2q) =>
 (.ite y3
 (.ite (ile ((x.fst.Rings.n : Nat) : Int) x.snd.fst.C)
 (.ret 7)
 (.ite (ieq x.snd.fst.Op 19)
 (.need (inb x.snd.fst.C x.fst.Rings.n) <|
 (.ite (ile (IntKind.u64.wrap (x.fst.Rings.get (Int.toNat x.snd.fst.C)).Readers) x.snd.fst.K)
 (.ret 7)
 (.ret 0)))
 (.ret 0)))
 (.ite (ieq x.snd.fst.Op 19)
 (.need (inb x.snd.fst.C x.fst.Rings.n) <|
 (.ite (ile (IntKind.u64.wrap (x.fst.Rings.get (Int.toNat x.snd.fst.C)).Readers) x.snd.fst.K)
 (.ret 7)
 (.ret 0)))
 (.ret 0))))))))
theorem sd_f2u (x : X_f2u) : (tt_f2u x).Sides :=
  (TT.sC fun _ => (TT.sI TT.sR (TT.sC fun _ => (TT.sI (TT.sI TT.sR (TT.sC fun _ => (TT.sI (TT.sI TT.sR (TT.sI (TT.sN (TT.sI TT.sR TT.sR)) TT.sR)) (TT.sI (TT.sN (TT.sI TT.sR TT.sR)) TT.sR)))) (TT.sC fun _ => (TT.sI (TT.sI TT.sR (TT.sI (TT.sN (TT.sI TT.sR TT.sR)) TT.sR)) (TT.sI (TT.sN (TT.sI TT.sR TT.sR)) TT.sR)))))))
noncomputable def D_f2u : Dyn X_f2u R_f2u := .of tt_f2u
noncomputable def con_f2u : Con Tryz.prog :=
  mkCon 148 J_f2u S_f2u D_f2u D_f2u (fun _ _ h => h) 3 0 [sh_TPg, .any, .any] (by kernel_rfl) (by kernel_rfl) (by kernel_rfl) (lbk mxk lbn 4000 (fun x => by kernel_rfl) sd_f2u) rfl rfl (fun _ => rfl) (by kernel_rfl) rfl (fun _ => rfl) (fun x y _ => by kernel_rfl)
abbrev X_f5 : Type := TPg
abbrev R_f5 : Type := Int × Int × Int
noncomputable def J_f5 : Job Tryz.prog :=
  job Tryz.prog Tryz.f99 72 [(1, 3)] [] [] [] [.any, .any, .any] [] [con_f2u, con_f1u] R_f5 [] fun y => [V.tup (V.cons ((V.int .i64) y.1) (V.cons ((V.int .i64) y.2.1) (V.cons ((V.int .i64) y.2.2) (V.unit))))]
noncomputable def S_f5 : LabS :=
  lab0 Tryz.f99 1 0 X_f5 (fun x => [e_TPg x]) fun l => (d_TPg (at_ l 0))
structure X_f5_4 where
  p_1 : TPg
noncomputable def S_f5_4 : LabS :=
  labAt Tryz.f99 4 [(1, .any)] [] [] X_f5_4 (fun x => [(eVp e_TPg) x.p_1]) fun l => ⟨(dVp d_TPg) (at_ l 0)⟩
structure X_f5_5 where
  p_1 : TPg
  q_29 : (Sl TRg)
  q_30 : Int
  q_31 : Int
noncomputable def S_f5_5 : LabS :=
  labAt Tryz.f99 5 [(1, .any), (29, hsl_TRg), (30, .any), (31, .any)] [] [] X_f5_5 (fun x => [(eVp e_TPg) x.p_1, esl_TRg x.q_29, (V.int .i64) x.q_30, (V.int .i64) x.q_31]) fun l => ⟨(dVp d_TPg) (at_ l 0), dsl_TRg (at_ l 1), dI (at_ l 2), dI (at_ l 3)⟩
structure X_f5_10 where
  p_1 : TPg
noncomputable def S_f5_10 : LabS :=
  labAt Tryz.f99 10 [(1, .any)] [] [] X_f5_10 (fun x => [(eVp e_TPg) x.p_1]) fun l => ⟨(dVp d_TPg) (at_ l 0)⟩
structure X_f5_11 where
  p_1 : TPg
  q_42 : (Sl (Sl TIn))
  q_43 : Int
  q_44 : Int
noncomputable def S_f5_11 : LabS :=
  labAt Tryz.f99 11 [(1, .any), (42, hsl_sl_TIn), (43, .any), (44, .any)] [] [] X_f5_11 (fun x => [(eVp e_TPg) x.p_1, esl_sl_TIn x.q_42, (V.int .i64) x.q_43, (V.int .i64) x.q_44]) fun l => ⟨(dVp d_TPg) (at_ l 0), dsl_sl_TIn (at_ l 1), dI (at_ l 2), dI (at_ l 3)⟩
structure X_f5_16 where
  p_1 : TPg
  t_8 : Int
  l_9 : (Sl TIn)
  q_42 : (Sl (Sl TIn))
  q_43 : Int
  q_44 : Int
  q_53 : (Sl TIn)
  q_54 : Int
  q_55 : Int
noncomputable def S_f5_16 : LabS :=
  labAt Tryz.f99 16 [(1, .any), (8, .any), (9, hsl_TIn), (42, hsl_sl_TIn), (43, .any), (44, .any), (53, hsl_TIn), (54, .any), (55, .any)] [] [] X_f5_16 (fun x => [(eVp e_TPg) x.p_1, (V.int .i64) x.t_8, esl_TIn x.l_9, esl_sl_TIn x.q_42, (V.int .i64) x.q_43, (V.int .i64) x.q_44, esl_TIn x.q_53, (V.int .i64) x.q_54, (V.int .i64) x.q_55]) fun l => ⟨(dVp d_TPg) (at_ l 0), dI (at_ l 1), dsl_TIn (at_ l 2), dsl_sl_TIn (at_ l 3), dI (at_ l 4), dI (at_ l 5), dsl_TIn (at_ l 6), dI (at_ l 7), dI (at_ l 8)⟩
structure X_f5_22 where
  p_1 : TPg
  q_42 : (Sl (Sl TIn))
  q_43 : Int
  q_44 : Int
noncomputable def S_f5_22 : LabS :=
  labAt Tryz.f99 22 [(1, .any), (42, hsl_sl_TIn), (43, .any), (44, .any)] [] [] X_f5_22 (fun x => [(eVp e_TPg) x.p_1, esl_sl_TIn x.q_42, (V.int .i64) x.q_43, (V.int .i64) x.q_44]) fun l => ⟨(dVp d_TPg) (at_ l 0), dsl_sl_TIn (at_ l 1), dI (at_ l 2), dI (at_ l 3)⟩
noncomputable def tt_f5_22 (D_f5_11 : Dyn X_f5_11 R_f5) (x : X_f5_22) : TT Tryz.prog R_f5 :=
 (.jump S_f5_11 D_f5_11 (X_f5_11.mk x.p_1 x.q_42 x.q_43 (IntKind.i64.wrap (x.q_44 + 1))))
theorem sd_f5_22 (D_f5_11 : Dyn X_f5_11 R_f5) (x : X_f5_22) : (tt_f5_22 D_f5_11 x).Sides :=
  TT.sJ
noncomputable def D_f5_22 (D_f5_11 : Dyn X_f5_11 R_f5) : Dyn X_f5_22 R_f5 := .of (tt_f5_22 D_f5_11)
theorem ok_f5_22 (D_f5_11 : Dyn X_f5_11 R_f5) (h_11 : LabOK J_f5 S_f5_11 D_f5_11) : LabOK J_f5 S_f5_22 (D_f5_22 D_f5_11) :=
  lbk mxk (lbc h_11 rfl lbn) 4000 (fun x => by kernel_rfl) (sd_f5_22 D_f5_11)
noncomputable def tt_f5_16 (D_f5_11 : Dyn X_f5_11 R_f5) (D_f5_16 : Dyn X_f5_16 R_f5) (x : X_f5_16) : TT Tryz.prog R_f5 :=
 (.ite (ilt x.q_55 x.q_54)
 (.need (inb x.q_55 x.q_53.n) <|
 (.call con_f2u (x.p_1, ((x.q_53.get (Int.toNat x.q_55)), ((x.l_9.n : Nat) : Int))) fun (y3 : R_f2u) =>
 (.ite (!(ieq y3 0))
 (.ret (x.t_8, (x.q_55, y3)))
 (.jump S_f5_16 D_f5_16 (X_f5_16.mk x.p_1 x.t_8 x.l_9 x.q_42 x.q_43 x.q_44 x.q_53 x.q_54 (IntKind.i64.wrap (x.q_55 + 1)))))))
 (.jump S_f5_22 (D_f5_22 D_f5_11) (X_f5_22.mk x.p_1 x.q_42 x.q_43 x.q_44)))
theorem sd_f5_16 (D_f5_11 : Dyn X_f5_11 R_f5) (D_f5_16 : Dyn X_f5_16 R_f5) (x : X_f5_16) : (tt_f5_16 D_f5_11 D_f5_16 x).Sides :=
  (TT.sI (TT.sN (TT.sC fun _ => (TT.sI TT.sR TT.sJ))) TT.sJ)
noncomputable def D_f5_16 (D_f5_11 : Dyn X_f5_11 R_f5) : Dyn X_f5_16 R_f5 := Dyn.loop (tt_f5_16 D_f5_11)
theorem ok_f5_16 (D_f5_11 : Dyn X_f5_11 R_f5) (h_11 : LabOK J_f5 S_f5_11 D_f5_11) : LabOK J_f5 S_f5_16 (D_f5_16 D_f5_11) :=
  loop_ok fun D_f5_16 h_16 => lbk mxk (lbc h_11 rfl (lbc h_16 rfl (lbc (ok_f5_22 D_f5_11 h_11) rfl lbn))) 4000 (fun x => by kernel_rfl) (sd_f5_16 D_f5_11 D_f5_16)
noncomputable def tt_f5_11 (D_f5_11 : Dyn X_f5_11 R_f5) (x : X_f5_11) : TT Tryz.prog R_f5 :=
 (.ite (ilt x.q_44 x.q_43)
 (.need (inb x.q_44 x.q_42.n) <|
 (.ite (ilt 256 (((x.q_42.get (Int.toNat x.q_44)).n : Nat) : Int))
 (.ret (x.q_44, (256, 4)))
 (.jump S_f5_16 (D_f5_16 D_f5_11) (X_f5_16.mk x.p_1 x.q_44 (x.q_42.get (Int.toNat x.q_44)) x.q_42 x.q_43 x.q_44 (x.q_42.get (Int.toNat x.q_44)) (((x.q_42.get (Int.toNat x.q_44)).n : Nat) : Int) 0))))
 (.ret (0, (0, 0))))
theorem sd_f5_11 (D_f5_11 : Dyn X_f5_11 R_f5) (x : X_f5_11) : (tt_f5_11 D_f5_11 x).Sides :=
  (TT.sI (TT.sN (TT.sI TT.sR TT.sJ)) TT.sR)
noncomputable def D_f5_11 : Dyn X_f5_11 R_f5 := Dyn.loop tt_f5_11
theorem ok_f5_11 : LabOK J_f5 S_f5_11 D_f5_11 :=
  loop_ok fun D_f5_11 h_11 => lbk mxk (lbc h_11 rfl (lbc (ok_f5_22 D_f5_11 h_11) rfl (lbc (ok_f5_16 D_f5_11 h_11) rfl lbn))) 4000 (fun x => by kernel_rfl) (sd_f5_11 D_f5_11)
noncomputable def tt_f5_10 (x : X_f5_10) : TT Tryz.prog R_f5 :=
 (.jump S_f5_11 D_f5_11 (X_f5_11.mk x.p_1 x.p_1.Threads ((x.p_1.Threads.n : Nat) : Int) 0))
theorem sd_f5_10 (x : X_f5_10) : (tt_f5_10 x).Sides :=
  TT.sJ
noncomputable def D_f5_10 : Dyn X_f5_10 R_f5 := .of tt_f5_10
theorem ok_f5_10 : LabOK J_f5 S_f5_10 D_f5_10 :=
  lbk mxk (lbc ok_f5_11 rfl lbn) 4000 (fun x => by kernel_rfl) sd_f5_10
noncomputable def tt_f5_5 (D_f5_5 : Dyn X_f5_5 R_f5) (x : X_f5_5) : TT Tryz.prog R_f5 :=
 (.ite (ilt x.q_31 x.q_30)
 (.need (inb x.q_31 x.q_29.n) <|
 (.call con_f1u (x.q_29.get (Int.toNat x.q_31)) fun (y2 : R_f1u) =>
 (.ite (!y2)
 (.ret ((-(1 : Int)), (x.q_31, 7)))
 (.jump S_f5_5 D_f5_5 (X_f5_5.mk x.p_1 x.q_29 x.q_30 (IntKind.i64.wrap (x.q_31 + 1)))))))
 (.jump S_f5_10 D_f5_10 (X_f5_10.mk x.p_1)))
theorem sd_f5_5 (D_f5_5 : Dyn X_f5_5 R_f5) (x : X_f5_5) : (tt_f5_5 D_f5_5 x).Sides :=
  (TT.sI (TT.sN (TT.sC fun _ => (TT.sI TT.sR TT.sJ))) TT.sJ)
noncomputable def D_f5_5 : Dyn X_f5_5 R_f5 := Dyn.loop tt_f5_5
theorem ok_f5_5 : LabOK J_f5 S_f5_5 D_f5_5 :=
  loop_ok fun D_f5_5 h_5 => lbk mxk (lbc h_5 rfl (lbc ok_f5_11 rfl (lbc ok_f5_10 rfl lbn))) 4000 (fun x => by kernel_rfl) (sd_f5_5 D_f5_5)
noncomputable def tt_f5_4 (x : X_f5_4) : TT Tryz.prog R_f5 :=
 (.jump S_f5_5 D_f5_5 (X_f5_5.mk x.p_1 x.p_1.Rings ((x.p_1.Rings.n : Nat) : Int) 0))
theorem sd_f5_4 (x : X_f5_4) : (tt_f5_4 x).Sides :=
  TT.sJ
noncomputable def D_f5_4 : Dyn X_f5_4 R_f5 := .of tt_f5_4
theorem ok_f5_4 : LabOK J_f5 S_f5_4 D_f5_4 :=
  lbk mxk (lbc ok_f5_11 rfl (lbc ok_f5_10 rfl (lbc ok_f5_5 rfl lbn))) 4000 (fun x => by kernel_rfl) sd_f5_4
noncomputable def tt_f5 (x : X_f5) : TT Tryz.prog R_f5 :=
 (.ite (ieq ((x.Threads.n : Nat) : Int) 0)
 (.ret (0, (0, 1)))
 (.ite (ilt 8 ((x.Threads.n : Nat) : Int))
 (.ret (0, (0, 1)))
 (.ite (ilt 8 ((x.Rings.n : Nat) : Int))
 (.ret (0, (0, 1)))
 (.jump S_f5_4 D_f5_4 (X_f5_4.mk x)))))
theorem sd_f5 (x : X_f5) : (tt_f5 x).Sides :=
  (TT.sI TT.sR (TT.sI TT.sR (TT.sI TT.sR TT.sJ)))
noncomputable def D_f5 : Dyn X_f5 R_f5 := .of tt_f5
noncomputable def con_f5 : Con Tryz.prog :=
  mkCon 99 J_f5 S_f5 D_f5 D_f5 (fun _ _ h => h) 1 0 [sh_TPg] (by kernel_rfl) (by kernel_rfl) (by kernel_rfl) (lbk mxk (lbc ok_f5_11 rfl (lbc ok_f5_10 rfl (lbc ok_f5_5 rfl (lbc ok_f5_4 rfl lbn)))) 4000 (fun x => by kernel_rfl) sd_f5) rfl rfl (fun _ => rfl) (by kernel_rfl) rfl (fun _ => rfl) (fun x y _ => by kernel_rfl)
abbrev X_f2v : Type := TPg
abbrev R_f2v : Type := Bool
noncomputable def J_f2v : Job Tryz.prog :=
  job Tryz.prog Tryz.f57 14 [(1, 3), (6, 1)] [] [] [] [.any] [] [con_f5] R_f2v [] fun y => [V.bool y]
noncomputable def S_f2v : LabS :=
  lab0 Tryz.f57 1 0 X_f2v (fun x => [e_TPg x]) fun l => (d_TPg (at_ l 0))
noncomputable def tt_f2v (x : X_f2v) : TT Tryz.prog R_f2v :=
 (.call con_f5 x fun (y1 : R_f5) =>
 (.ret (ieq y1.snd.snd 0)))
theorem sd_f2v (x : X_f2v) : (tt_f2v x).Sides :=
  (TT.sC fun _ => TT.sR)
noncomputable def D_f2v : Dyn X_f2v R_f2v := .of tt_f2v
noncomputable def con_f2v : Con Tryz.prog :=
  mkCon 57 J_f2v S_f2v D_f2v D_f2v (fun _ _ h => h) 1 0 [sh_TPg] (by kernel_rfl) (by kernel_rfl) (by kernel_rfl) (lbk mxk lbn 4000 (fun x => by kernel_rfl) sd_f2v) rfl rfl (fun _ => rfl) (by kernel_rfl) rfl (fun _ => rfl) (fun x y _ => by kernel_rfl)
abbrev X_f1s : Type := (Sl TRg)
abbrev R_f1s : Type := (Sl TRg)
noncomputable def J_f1s : Job Tryz.prog :=
  job Tryz.prog Tryz.f100 8 [(6, 1)] [] [] [.shut 2] [hsl_TRg] [] [] R_f1s [] fun y => [esl_TRg y]
noncomputable def S_f1s : LabS :=
  lab0 Tryz.f100 1 0 X_f1s (fun x => [esl_TRg x]) fun l => (dsl_TRg (at_ l 0))
noncomputable def tt_f1s (x : X_f1s) : TT Tryz.prog R_f1s :=
 (.ite x.nil
 (.ret (Sl.mk true 0 (fun _i1 => (TRg.mk 0 0 0))))
 (.need (true && (room ((0 : Nat) + x.n) 24)) <|
 (.ret (Sl.mk (cond (Nat.beq x.n 0) false false) ((0 : Nat) + x.n) (fun i1 => (TRg.mk (cond (Nat.blt i1 0) (0 : Int) (x.get (i1 - 0)).Kind) (cond (Nat.blt i1 0) (0 : Int) (x.get (i1 - 0)).Cap) (cond (Nat.blt i1 0) (0 : Int) (x.get (i1 - 0)).Readers)))))))
theorem sd_f1s (x : X_f1s) : (tt_f1s x).Sides :=
  (TT.sI TT.sR (TT.sN TT.sR))
noncomputable def D_f1s : Dyn X_f1s R_f1s := .of tt_f1s
noncomputable def con_f1s : Con Tryz.prog :=
  mkCon 100 J_f1s S_f1s D_f1s D_f1s (fun _ _ h => h) 1 0 [hsl_TRg] (by kernel_rfl) (by kernel_rfl) (by kernel_rfl) (lbk mxk lbn 4000 (fun x => by kernel_rfl) sd_f1s) rfl rfl (fun _ => rfl) (by kernel_rfl) rfl (fun _ => rfl) (fun x y _ => by kernel_rfl)
abbrev X_f1l : Type := (Sl TIn)
abbrev R_f1l : Type := (Sl TIn)
noncomputable def J_f1l : Job Tryz.prog :=
  job Tryz.prog Tryz.f101 8 [(6, 1)] [] [] [.shut 2] [hsl_TIn] [] [] R_f1l [] fun y => [esl_TIn y]
noncomputable def S_f1l : LabS :=
  lab0 Tryz.f101 1 0 X_f1l (fun x => [esl_TIn x]) fun l => (dsl_TIn (at_ l 0))
noncomputable def tt_f1l (x : X_f1l) : TT Tryz.prog R_f1l :=
 (.ite x.nil
 (.ret (Sl.mk true 0 (fun _i1 => (TIn.mk 0 0 0 0 0 0))))
 (.need (true && (room ((0 : Nat) + x.n) 48)) <|
 (.ret (Sl.mk (cond (Nat.beq x.n 0) false false) ((0 : Nat) + x.n) (fun i1 => (TIn.mk (cond (Nat.blt i1 0) (0 : Int) (x.get (i1 - 0)).Op) (cond (Nat.blt i1 0) (0 : Int) (x.get (i1 - 0)).A) (cond (Nat.blt i1 0) (0 : Int) (x.get (i1 - 0)).B) (cond (Nat.blt i1 0) (0 : Int) (x.get (i1 - 0)).C) (cond (Nat.blt i1 0) (0 : Int) (x.get (i1 - 0)).D) (cond (Nat.blt i1 0) (0 : Int) (x.get (i1 - 0)).K)))))))
theorem sd_f1l (x : X_f1l) : (tt_f1l x).Sides :=
  (TT.sI TT.sR (TT.sN TT.sR))
noncomputable def D_f1l : Dyn X_f1l R_f1l := .of tt_f1l
noncomputable def con_f1l : Con Tryz.prog :=
  mkCon 101 J_f1l S_f1l D_f1l D_f1l (fun _ _ h => h) 1 0 [hsl_TIn] (by kernel_rfl) (by kernel_rfl) (by kernel_rfl) (lbk mxk lbn 4000 (fun x => by kernel_rfl) sd_f1l) rfl rfl (fun _ => rfl) (by kernel_rfl) rfl (fun _ => rfl) (fun x y _ => by kernel_rfl)
abbrev DslA_sl_TIn : Type := (Sl (Sl TIn))
def eslA_sl_TIn : DslA_sl_TIn → V := (eSl (some 82) 1 esl_TIn)
def dslA_sl_TIn : V → DslA_sl_TIn := (dSl dsl_TIn)
def hslA_sl_TIn : Sh := (.sl (some 82) 1 (esl_TIn (dsl_TIn .undef)))
def e_TPg_1 (x : TPg) : V :=
  V.cons (esl_TRg x.Rings) (V.cons (eslA_sl_TIn x.Threads) (V.unit))
theorem nu_e_TPg_1 (x : TPg) : (e_TPg_1 x).NoU := ⟨trivial, trivial, trivial⟩
def sh_TPg_1 : Sh := (.cons hsl_TRg (.cons hslA_sl_TIn .any))
abbrev X_fs : Type := TPg
abbrev R_fs : Type := TPg
noncomputable def J_fs : Job Tryz.prog :=
  job Tryz.prog Tryz.f58 26 [(1, 3), (18, 1), (19, 1)] [] [] [] [sh_TPg] [] [con_f1l, con_f1s] R_fs [] fun y => [e_TPg y]
noncomputable def S_fs : LabS :=
  lab0 Tryz.f58 1 0 X_fs (fun x => [e_TPg x]) fun l => (d_TPg (at_ l 0))
structure X_fs_3 where
  q_11 : (Sl (Sl TIn))
  q_12 : Int
  q_13 : Int
  m_2 : TPg
  m_3 : TPg
noncomputable def S_fs_3 : LabS :=
  labAt Tryz.f58 3 [(2, .any), (3, .any), (11, hsl_sl_TIn), (12, .any), (13, .any)] [] [(.loc 2 0, sh_TPg), (.loc 3 0, sh_TPg_1)] X_fs_3 (fun x => [(V.ptr (.loc 2 0) []), (V.ptr (.loc 3 0) []), esl_sl_TIn x.q_11, (V.int .i64) x.q_12, (V.int .i64) x.q_13, e_TPg x.m_2, e_TPg_1 x.m_3]) fun l => ⟨dsl_sl_TIn (at_ l 2), dI (at_ l 3), dI (at_ l 4), d_TPg (at_ l 5), d_TPg (at_ l 6)⟩
noncomputable def tt_fs_3 (D_fs_3 : Dyn X_fs_3 R_fs) (x : X_fs_3) : TT Tryz.prog R_fs :=
 (.ite (ilt x.q_13 x.q_12)
 (.need (inb x.q_13 x.q_11.n) <|
 (.call con_f1l (x.q_11.get (Int.toNat x.q_13)) fun (y2 : R_f1l) =>
 (.need (true && (room (x.m_3.Threads.n + 1) 24)) <|
 (.jump S_fs_3 D_fs_3 (X_fs_3.mk x.q_11 x.q_12 (IntKind.i64.wrap (x.q_13 + 1)) x.m_2 (TPg.mk x.m_3.Rings (Sl.mk (cond (Nat.beq 1 0) x.m_3.Threads.nil false) (x.m_3.Threads.n + 1) (fun i3 => (Sl.mk (cond (Nat.blt i3 x.m_3.Threads.n) (x.m_3.Threads.get i3).nil y2.nil) (cond (Nat.blt i3 x.m_3.Threads.n) (x.m_3.Threads.get i3).n y2.n) (fun i4 => (TIn.mk (cond (Nat.blt i3 x.m_3.Threads.n) ((x.m_3.Threads.get i3).get i4).Op (y2.get i4).Op) (cond (Nat.blt i3 x.m_3.Threads.n) ((x.m_3.Threads.get i3).get i4).A (y2.get i4).A) (cond (Nat.blt i3 x.m_3.Threads.n) ((x.m_3.Threads.get i3).get i4).B (y2.get i4).B) (cond (Nat.blt i3 x.m_3.Threads.n) ((x.m_3.Threads.get i3).get i4).C (y2.get i4).C) (cond (Nat.blt i3 x.m_3.Threads.n) ((x.m_3.Threads.get i3).get i4).D (y2.get i4).D) (cond (Nat.blt i3 x.m_3.Threads.n) ((x.m_3.Threads.get i3).get i4).K (y2.get i4).K))))))))))))
 (.ret x.m_3))
theorem sd_fs_3 (D_fs_3 : Dyn X_fs_3 R_fs) (x : X_fs_3) : (tt_fs_3 D_fs_3 x).Sides :=
  (TT.sI (TT.sN (TT.sC fun _ => (TT.sN TT.sJ))) TT.sR)
noncomputable def D_fs_3 : Dyn X_fs_3 R_fs := Dyn.loop tt_fs_3
theorem ok_fs_3 : LabOK J_fs S_fs_3 D_fs_3 :=
  loop_ok fun D_fs_3 h_3 => lbk mxk (lbc h_3 rfl lbn) 4000 (fun x => by kernel_rfl) (sd_fs_3 D_fs_3)
noncomputable def tt_fs (x : X_fs) : TT Tryz.prog R_fs :=
 (.call con_f1s x.Rings fun (y1 : R_f1s) =>
 (.jump S_fs_3 D_fs_3 (X_fs_3.mk x.Threads ((x.Threads.n : Nat) : Int) 0 (TPg.mk (Sl.mk true 0 (fun _i2 => (TRg.mk 0 0 0))) (Sl.mk true 0 (fun _i2 => (Sl.mk true 0 (fun _i3 => (TIn.mk 0 0 0 0 0 0)))))) (TPg.mk y1 (Sl.mk true 0 (fun _i2 => (Sl.mk true 0 (fun _i3 => (TIn.mk 0 0 0 0 0 0)))))))))
theorem sd_fs (x : X_fs) : (tt_fs x).Sides :=
  (TT.sC fun _ => TT.sJ)
noncomputable def D_fs : Dyn X_fs R_fs := .of tt_fs
noncomputable def con_fs : Con Tryz.prog :=
  mkCon 58 J_fs S_fs D_fs D_fs (fun _ _ h => h) 1 0 [sh_TPg] (by kernel_rfl) (by kernel_rfl) (by kernel_rfl) (lbk mxk (lbc ok_fs_3 rfl lbn) 4000 (fun x => by kernel_rfl) sd_fs) rfl rfl (fun _ => rfl) (by kernel_rfl) rfl (fun _ => rfl) (fun x y _ => by kernel_rfl)
abbrev X_f2z : Type := Int × Int
abbrev R_f2z : Type := Bool
noncomputable def J_f2z : Job Tryz.prog :=
  job Tryz.prog Tryz.f149 19 [] [] [] [] [.any] [] [] R_f2z [] fun y => [V.bool y]
noncomputable def S_f2z : LabS :=
  lab0 Tryz.f149 2 0 X_f2z (fun x => [(V.int .i64) x.1, (V.int .i64) x.2]) fun l => (dI (at_ l 0), dI (at_ l 1))
noncomputable def tt_f2z (x : X_f2z) : TT Tryz.prog R_f2z :=
 (.ite (ile 1 x.fst)
 (.ite (ile x.fst 64)
 (.ite (ile 1 x.snd)
 (.ret (ile x.snd 8))
 (.ret false))
 (.ret false))
 (.ret false))
theorem sd_f2z (x : X_f2z) : (tt_f2z x).Sides :=
  (TT.sI (TT.sI (TT.sI TT.sR TT.sR) TT.sR) TT.sR)
noncomputable def D_f2z : Dyn X_f2z R_f2z := .of tt_f2z
noncomputable def con_f2z : Con Tryz.prog :=
  mkCon 149 J_f2z S_f2z D_f2z D_f2z (fun _ _ h => h) 2 0 [.any, .any] (by kernel_rfl) (by kernel_rfl) (by kernel_rfl) (lbk mxk lbn 4000 (fun x => by kernel_rfl) sd_f2z) rfl rfl (fun _ => rfl) (by kernel_rfl) rfl (fun _ => rfl) (fun x y _ => by kernel_rfl)
abbrev X_f2b : Type := Int
abbrev R_f2b : Type := Int
noncomputable def J_f2b : Job Tryz.prog :=
  job Tryz.prog Tryz.f150 5 [] [] [] [] [.any] [] [] R_f2b [] fun y => [(V.int .u64) y]
noncomputable def S_f2b : LabS :=
  lab0 Tryz.f150 1 0 X_f2b (fun x => [(V.int .u64) x]) fun l => (dI (at_ l 0))
noncomputable def tt_f2b (x : X_f2b) : TT Tryz.prog R_f2b :=
 (.ret (IntKind.u64.wrap ((2 : Int) * x)))
theorem sd_f2b (x : X_f2b) : (tt_f2b x).Sides :=
  TT.sR
noncomputable def D_f2b : Dyn X_f2b R_f2b := .of tt_f2b
noncomputable def con_f2b : Con Tryz.prog :=
  mkCon 150 J_f2b S_f2b D_f2b D_f2b (fun _ _ h => h) 1 0 [.any] (by kernel_rfl) (by kernel_rfl) (by kernel_rfl) (lbk mxk lbn 4000 (fun x => by kernel_rfl) sd_f2b) rfl rfl (fun _ => rfl) (by kernel_rfl) rfl (fun _ => rfl) (fun x y _ => by kernel_rfl)
def d_TSo (v : V) : TSo :=
  ⟨dI (fd v 0), dI (fd v 1), dI (fd v 2)⟩
def e_TSo (x : TSo) : V :=
  V.cons ((V.int .u64) x.Stamp) (V.cons ((V.int .u64) x.Value) (V.cons ((V.int .i64) x.Left) (V.unit)))
theorem nu_e_TSo (x : TSo) : (e_TSo x).NoU := ⟨trivial, trivial, trivial, trivial⟩
abbrev Dsl_TSo : Type := (Sl TSo)
def esl_TSo : Dsl_TSo → V := (eSl none 3 e_TSo)
def dsl_TSo : V → Dsl_TSo := (dSl d_TSo)
def hsl_TSo : Sh := (.sl none 3 (e_TSo (d_TSo .undef)))
abbrev Dosl_TSo : Type := (Sl TSo)
def eosl_TSo : Dosl_TSo → V := (eOsl 150 3 e_TSo)
def dosl_TSo : V → Dosl_TSo := (dSl d_TSo)
def hosl_TSo : Sh := (.osl 150 3 (e_TSo (d_TSo .undef)))
structure TSs where
  l : (Sl TSo)
  readers : Int
def d_TSs (v : V) : TSs :=
  ⟨dosl_TSo (fd v 0), dI (fd v 1)⟩
def e_TSs (x : TSs) : V :=
  V.cons (eosl_TSo x.l) (V.cons ((V.int .i64) x.readers) (V.unit))
theorem nu_e_TSs (x : TSs) : (e_TSs x).NoU := ⟨(fun _ _ => (nu_e_TSo) _ : ∀ y, (eosl_TSo y).NoU) x.l, trivial, trivial⟩
def sh_TSs : Sh := (.cons hosl_TSo .any)
abbrev Dbox_TSs : Type := (Bx TSs)
def ebox_TSs : Dbox_TSs → V := (eBx e_TSs)
def dbox_TSs : V → Dbox_TSs := (dBx d_TSs)
def hbox_TSs : Sh := (.box (e_TSs (d_TSs .undef)))
abbrev X_f1k : Type := Int × Int
abbrev R_f1k : Type := (Bx TSs) × Int
noncomputable def J_f1k : Job Tryz.prog :=
  job Tryz.prog Tryz.f102 37 [(13, 1)] [(5, [.close (.loc 28 0), .close (.loc 20 0)]), (6, [.close (.loc 28 0), .close (.loc 20 0)]), (7, [.close (.loc 28 0), .close (.loc 20 0)]), (8, [.close (.loc 28 0), .close (.loc 20 0)]), (9, [.close (.loc 28 0), .close (.loc 20 0)])] [(7, [.opn (.loc 16 0) [.fld 0 0] 28])] [.close (.loc 28 0), .close (.loc 20 0), .shut 4] [hbox_TSs, .any] [] [con_f2b, con_f2z] R_f1k [(0, [⟨.loc 28 0, .loc 16 0, [.fld 0 0], none, none⟩]), (5, [⟨.loc 28 0, .loc 16 0, [.fld 0 0], none, none⟩])] fun y => [V.tup (V.cons (ebox_TSs y.1) (V.cons ((V.int .i64) y.2) (V.unit)))]
noncomputable def S_f1k : LabS :=
  lab0 Tryz.f102 2 0 X_f1k (fun x => [(V.int .i64) x.1, (V.int .i64) x.2]) fun l => (dI (at_ l 0), dI (at_ l 1))
structure X_f1k_5 where
  q_21 : Int
  q_22 : Int
  m_16 : TSs
noncomputable def S_f1k_5 : LabS :=
  labAt Tryz.f102 5 [(6, .any), (21, .any), (22, .any)] [] [(.loc 16 0, sh_TSs)] X_f1k_5 (fun x => [(V.ptr (.loc 16 0) []), (V.int .i64) x.q_21, (V.int .i64) x.q_22, e_TSs x.m_16]) fun l => ⟨dI (at_ l 1), dI (at_ l 2), d_TSs (at_ l 3)⟩
noncomputable def tt_f1k_5 (D_f1k_5 : Dyn X_f1k_5 R_f1k) (x : X_f1k_5) : TT Tryz.prog R_f1k :=
 (.ite (ilt x.q_22 x.q_21)
 (.call con_f2b (IntKind.u64.wrap x.q_22) fun (y2 : R_f2b) =>
 (.need (inb x.q_22 x.m_16.l.n) <|
 (.need ((Nat.beq x.m_16.l.n x.m_16.l.n) && true) <|
 (.need ((true && true) && (Nat.beq x.m_16.l.n x.m_16.l.n)) <|
 (.jump S_f1k_5 D_f1k_5 (X_f1k_5.mk x.q_21 (IntKind.i64.wrap (x.q_22 + 1)) (TSs.mk (Sl.mk x.m_16.l.nil x.m_16.l.n (fun i3 => (TSo.mk (cond (Nat.beq i3 ((0 : Nat) + (Int.toNat x.q_22))) y2 (x.m_16.l.get i3).Stamp) (cond (Nat.beq i3 ((0 : Nat) + (Int.toNat x.q_22))) (x.m_16.l.get ((0 : Nat) + (Int.toNat x.q_22))).Value (x.m_16.l.get i3).Value) (cond (Nat.beq i3 ((0 : Nat) + (Int.toNat x.q_22))) (x.m_16.l.get ((0 : Nat) + (Int.toNat x.q_22))).Left (x.m_16.l.get i3).Left)))) x.m_16.readers)))))))
 (.ret ((Bx.mk false x.m_16), 0)))
theorem sd_f1k_5 (D_f1k_5 : Dyn X_f1k_5 R_f1k) (x : X_f1k_5) : (tt_f1k_5 D_f1k_5 x).Sides :=
  (TT.sI (TT.sC fun _ => (TT.sN (TT.sN (TT.sN TT.sJ)))) TT.sR)
noncomputable def D_f1k_5 : Dyn X_f1k_5 R_f1k := Dyn.loop tt_f1k_5
theorem ok_f1k_5 : LabOK J_f1k S_f1k_5 D_f1k_5 :=
  loop_ok fun D_f1k_5 h_5 => lbk mxk (lbc h_5 rfl lbn) 4000 (fun x => by kernel_rfl) (sd_f1k_5 D_f1k_5)
noncomputable def tt_f1k (x : X_f1k) : TT Tryz.prog R_f1k :=
 (.call con_f2z x fun (y1 : R_f2z) =>
 (.ite (!y1)
 (.ret ((Bx.mk true (TSs.mk (Sl.mk true 0 (fun _i2 => (TSo.mk 0 0 0))) 0)), 1))
 (.need ((((upto x.fst (Int.toNat x.fst)) && (ile 0 x.fst)) && (room (Int.toNat x.fst) 24)) && (decide ((x.fst ≤ (9223372036854775807 : Int))))) <|
 (.need ((true && true) && (Nat.beq (Int.toNat x.fst) (Int.toNat x.fst))) <|
 (.jump S_f1k_5 D_f1k_5 (X_f1k_5.mk (((Int.toNat x.fst) : Nat) : Int) 0 (TSs.mk (Sl.mk false (Int.toNat x.fst) (fun _i2 => (TSo.mk 0 0 0))) x.snd)))))))
theorem sd_f1k (x : X_f1k) : (tt_f1k x).Sides :=
  (TT.sC fun _ => (TT.sI TT.sR (TT.sN (TT.sN TT.sJ))))
noncomputable def D_f1k : Dyn X_f1k R_f1k := .of tt_f1k
noncomputable def con_f1k : Con Tryz.prog :=
  mkCon 102 J_f1k S_f1k D_f1k D_f1k (fun _ _ h => h) 2 0 [.any, .any] (by kernel_rfl) (by kernel_rfl) (by kernel_rfl) (lbk mxk (lbc ok_f1k_5 rfl lbn) 4000 (fun x => by kernel_rfl) sd_f1k) rfl rfl (fun _ => rfl) (by kernel_rfl) rfl (fun _ => rfl) (fun x y _ => by kernel_rfl)
abbrev X_f36 : Type := TRg
abbrev R_f36 : Type := Bool
noncomputable def J_f36 : Job Tryz.prog :=
  job Tryz.prog Tryz.f103 12 [(1, 3)] [] [] [] [.any] [] [] R_f36 [] fun y => [V.bool y]
noncomputable def S_f36 : LabS :=
  lab0 Tryz.f103 1 0 X_f36 (fun x => [e_TRg x]) fun l => (d_TRg (at_ l 0))
noncomputable def tt_f36 (x : X_f36) : TT Tryz.prog R_f36 :=
 (.ite (ieq x.Kind 1)
 (.ret (ieq x.Readers 1))
 (.ite (ieq x.Kind 2)
 (.ret true)
 (.ret false)))
theorem sd_f36 (x : X_f36) : (tt_f36 x).Sides :=
  (TT.sI TT.sR (TT.sI TT.sR TT.sR))
noncomputable def D_f36 : Dyn X_f36 R_f36 := .of tt_f36
noncomputable def con_f36 : Con Tryz.prog :=
  mkCon 103 J_f36 S_f36 D_f36 D_f36 (fun _ _ h => h) 1 0 [.any] (by kernel_rfl) (by kernel_rfl) (by kernel_rfl) (lbk mxk lbn 4000 (fun x => by kernel_rfl) sd_f36) rfl rfl (fun _ => rfl) (by kernel_rfl) rfl (fun _ => rfl) (fun x y _ => by kernel_rfl)
abbrev Dosl_u64 : Type := (Sl Int)
def eosl_u64 : Dosl_u64 → V := (eOsl 35 1 (V.int .u64))
def dosl_u64 : V → Dosl_u64 := (dSl dI)
def hosl_u64 : Sh := (.osl 35 1 (V.int .u64 0))
structure TRc where
  tail : Int
  heads : (Sl Int)
def d_TRc (v : V) : TRc :=
  ⟨dI (fd v 0), dosl_u64 (fd v 1)⟩
def e_TRc (x : TRc) : V :=
  V.cons ((V.int .u64) x.tail) (V.cons (eosl_u64 x.heads) (V.unit))
theorem nu_e_TRc (x : TRc) : (e_TRc x).NoU := ⟨trivial, (fun _ _ => trivial : ∀ y, (eosl_u64 y).NoU) x.heads, trivial⟩
def sh_TRc : Sh := (.cons .any (.cons hosl_u64 .any))
structure TRr where
  cursors : TRc
  s : (Bx TSs)
  most : Int
  closed : Bool
def d_TRr (v : V) : TRr :=
  ⟨d_TRc (fd v 0), dbox_TSs (fd v 1), dI (fd v 2), dB (fd v 3)⟩
def e_TRr (x : TRr) : V :=
  V.cons (e_TRc x.cursors) (V.cons (ebox_TSs x.s) (V.cons ((V.int .u64) x.most) (V.cons (V.bool x.closed) (V.unit))))
theorem nu_e_TRr (x : TRr) : (e_TRr x).NoU := ⟨(nu_e_TRc : ∀ y, (e_TRc y).NoU) x.cursors, (fun _ => (nu_e_TSs) _ : ∀ y, (ebox_TSs y).NoU) x.s, trivial, trivial, trivial⟩
def sh_TRr : Sh := (.cons sh_TRc (.cons hbox_TSs .any))
abbrev Dbox_TRr : Type := (Bx TRr)
def ebox_TRr : Dbox_TRr → V := (eBx e_TRr)
def dbox_TRr : V → Dbox_TRr := (dBx d_TRr)
def hbox_TRr : Sh := (.box (e_TRr (d_TRr .undef)))
abbrev X_f29 : Type := TRg
abbrev R_f29 : Type := (Bx TRr) × Int
noncomputable def J_f29 : Job Tryz.prog :=
  job Tryz.prog Tryz.f59 31 [(1, 3), (6, 1), (23, 1), (25, 1)] [] [] [.shut 2] [hbox_TRr, .any] [] [con_f36, con_f1k] R_f29 [] fun y => [V.tup (V.cons (ebox_TRr y.1) (V.cons ((V.int .i64) y.2) (V.unit)))]
noncomputable def S_f29 : LabS :=
  lab0 Tryz.f59 1 0 X_f29 (fun x => [e_TRg x]) fun l => (d_TRg (at_ l 0))
structure X_f29_4 where
  r_1 : TRg
  s_4 : (Bx TSs)
noncomputable def S_f29_4 : LabS :=
  labAt Tryz.f59 4 [(1, .any), (4, hbox_TSs)] [] [] X_f29_4 (fun x => [(eVp e_TRg) x.r_1, ebox_TSs x.s_4]) fun l => ⟨(dVp d_TRg) (at_ l 0), dbox_TSs (at_ l 1)⟩
noncomputable def tt_f29_4 (x : X_f29_4) : TT Tryz.prog R_f29 :=
 (.need ((((upto x.r_1.Readers (Int.toNat x.r_1.Readers)) && (ile 0 x.r_1.Readers)) && (room (Int.toNat x.r_1.Readers) 8)) && (decide ((x.r_1.Readers ≤ (9223372036854775807 : Int))))) <|
 (.ret ((Bx.mk false (TRr.mk (TRc.mk 0 (Sl.mk false (Int.toNat x.r_1.Readers) (fun _i1 => (0 : Int)))) x.s_4 (IntKind.u64.wrap x.r_1.Cap) false)), 0)))
theorem sd_f29_4 (x : X_f29_4) : (tt_f29_4 x).Sides :=
  (TT.sN TT.sR)
noncomputable def D_f29_4 : Dyn X_f29_4 R_f29 := .of tt_f29_4
theorem ok_f29_4 : LabOK J_f29 S_f29_4 D_f29_4 :=
  lbk mxk lbn 4000 (fun x => by kernel_rfl) sd_f29_4
noncomputable def tt_f29 (x : X_f29) : TT Tryz.prog R_f29 :=
 (.call con_f1k (x.Cap, x.Readers) fun (y1 : R_f1k) =>
 (.ite (!(ieq y1.snd 0))
 (.ret ((Bx.mk true (TRr.mk (TRc.mk 0 (Sl.mk true 0 (fun _i2 => (0 : Int)))) (Bx.mk true (TSs.mk (Sl.mk true 0 (fun _i2 => (TSo.mk 0 0 0))) 0)) 0 false)), 1))
 (.call con_f36 x fun (y2 : R_f36) =>
 (.ite (!y2)
 (.ret ((Bx.mk true (TRr.mk (TRc.mk 0 (Sl.mk true 0 (fun _i3 => (0 : Int)))) (Bx.mk true (TSs.mk (Sl.mk true 0 (fun _i3 => (TSo.mk 0 0 0))) 0)) 0 false)), 1))
 (.jump S_f29_4 D_f29_4 (X_f29_4.mk x y1.fst))))))
theorem sd_f29 (x : X_f29) : (tt_f29 x).Sides :=
  (TT.sC fun _ => (TT.sI TT.sR (TT.sC fun _ => (TT.sI TT.sR TT.sJ))))
noncomputable def D_f29 : Dyn X_f29 R_f29 := .of tt_f29
noncomputable def con_f29 : Con Tryz.prog :=
  mkCon 59 J_f29 S_f29 D_f29 D_f29 (fun _ _ h => h) 1 0 [.any] (by kernel_rfl) (by kernel_rfl) (by kernel_rfl) (lbk mxk (lbc ok_f29_4 rfl lbn) 4000 (fun x => by kernel_rfl) sd_f29) rfl rfl (fun _ => rfl) (by kernel_rfl) rfl (fun _ => rfl) (fun x y _ => by kernel_rfl)
abbrev Dsl_box_TRr : Type := (Sl (Bx TRr))
def esl_box_TRr : Dsl_box_TRr → V := (eSl none 1 ebox_TRr)
def dsl_box_TRr : V → Dsl_box_TRr := (dSl dbox_TRr)
def hsl_box_TRr : Sh := (.sl none 1 (ebox_TRr (dbox_TRr .undef)))
abbrev Dsl_u64 : Type := (Sl Int)
def esl_u64 : Dsl_u64 → V := (eSl none 1 (V.int .u64))
def dsl_u64 : V → Dsl_u64 := (dSl dI)
def hsl_u64 : Sh := (.sl none 1 (V.int .u64 0))
structure TTh where
  At : Int
  Phase : Int
  Ring : Int
  Status : Int
  Ticket : Int
  Regs : (Nat → Int)
  Seen : (Sl Int)
def d_TTh (v : V) : TTh :=
  ⟨dI (fd v 0), dI (fd v 1), dI (fd v 2), dI (fd v 3), dI (fd v 4), (dArr dI) (fd v 5), dsl_u64 (fd v 6)⟩
def e_TTh (x : TTh) : V :=
  V.cons ((V.int .i64) x.At) (V.cons ((V.int .i64) x.Phase) (V.cons ((V.int .i64) x.Ring) (V.cons ((V.int .i64) x.Status) (V.cons ((V.int .u64) x.Ticket) (V.cons ((eArr 1 8 (V.int .u64)) x.Regs) (V.cons (esl_u64 x.Seen) (V.unit)))))))
theorem nu_e_TTh (x : TTh) : (e_TTh x).NoU := ⟨trivial, trivial, trivial, trivial, trivial, (fun _ _ => trivial : ∀ y, ((eArr 1 8 (V.int .u64)) y).NoU) x.Regs, trivial, trivial⟩
def sh_TTh : Sh := (.cons .any (.cons .any (.cons .any (.cons .any (.cons .any (.cons .any (.cons hsl_u64 .any)))))))
abbrev Dosl_TTh : Type := (Sl TTh)
def eosl_TTh : Dosl_TTh → V := (eOsl 79 14 e_TTh)
def dosl_TTh : V → Dosl_TTh := (dSl d_TTh)
def hosl_TTh : Sh := (.osl 79 14 (e_TTh (d_TTh .undef)))
abbrev Dosl_box_TRr : Type := (Sl (Bx TRr))
def eosl_box_TRr : Dosl_box_TRr → V := (eOsl 69 1 ebox_TRr)
def dosl_box_TRr : V → Dosl_box_TRr := (dSl dbox_TRr)
def hosl_box_TRr : Sh := (.osl 69 1 (ebox_TRr (dbox_TRr .undef)))
structure TFa where
  p : TPg
  threads : (Sl TTh)
  rings : (Sl (Bx TRr))
  now : Int
  reads : Int
  ended : Bool
def d_TFa (v : V) : TFa :=
  ⟨d_TPg (fd v 0), dosl_TTh (fd v 1), dosl_box_TRr (fd v 2), dI (fd v 3), dI (fd v 4), dB (fd v 5)⟩
def e_TFa (x : TFa) : V :=
  V.cons (e_TPg x.p) (V.cons (eosl_TTh x.threads) (V.cons (eosl_box_TRr x.rings) (V.cons ((V.int .u64) x.now) (V.cons ((V.int .u64) x.reads) (V.cons (V.bool x.ended) (V.unit))))))
theorem nu_e_TFa (x : TFa) : (e_TFa x).NoU := ⟨(nu_e_TPg : ∀ y, (e_TPg y).NoU) x.p, (fun _ _ => (nu_e_TTh) _ : ∀ y, (eosl_TTh y).NoU) x.threads, (fun _ _ => (fun _ => (nu_e_TRr) _) _ : ∀ y, (eosl_box_TRr y).NoU) x.rings, trivial, trivial, trivial, trivial⟩
def sh_TFa : Sh := (.cons sh_TPg (.cons hosl_TTh (.cons hosl_box_TRr .any)))
abbrev Dbox_TFa : Type := (Bx TFa)
def ebox_TFa : Dbox_TFa → V := (eBx e_TFa)
def dbox_TFa : V → Dbox_TFa := (dBx d_TFa)
def hbox_TFa : Sh := (.box (e_TFa (d_TFa .undef)))
def e_TFa_2 (x : TFa) : V :=
  V.cons (e_TPg x.p) (V.cons (eosl_TTh x.threads) (V.cons (eosl_box_TRr x.rings) (V.cons ((V.int .u64) x.now) (V.cons ((V.int .u64) x.reads) (V.cons (V.bool x.ended) (V.unit))))))
theorem nu_e_TFa_2 (x : TFa) : (e_TFa_2 x).NoU := ⟨(nu_e_TPg : ∀ y, (e_TPg y).NoU) x.p, (fun _ _ => (nu_e_TTh) _ : ∀ y, (eosl_TTh y).NoU) x.threads, (fun _ _ => (fun _ => (nu_e_TRr) _) _ : ∀ y, (eosl_box_TRr y).NoU) x.rings, trivial, trivial, trivial, trivial⟩
def sh_TFa_2 : Sh := (.cons sh_TPg (.cons hosl_TTh (.cons hosl_box_TRr .any)))
abbrev X_f12 : Type := TPg
abbrev R_f12 : Type := (Bx TFa) × Int
noncomputable def J_f12 : Job Tryz.prog :=
  job Tryz.prog Tryz.f20 44 [(1, 3), (17, 1), (27, 1), (36, 1), (37, 1), (38, 1)] [] [] [.shut 2] [hbox_TFa, .any] [] [con_f2v, con_fs, con_f29] R_f12 [] fun y => [V.tup (V.cons (ebox_TFa y.1) (V.cons ((V.int .i64) y.2) (V.unit)))]
noncomputable def S_f12 : LabS :=
  lab0 Tryz.f20 1 0 X_f12 (fun x => [e_TPg x]) fun l => (d_TPg (at_ l 0))
structure X_f12_5 where
  q_21 : (Sl TRg)
  q_22 : Int
  q_23 : Int
  m_19 : TFa
noncomputable def S_f12_5 : LabS :=
  labAt Tryz.f20 5 [(4, .any), (21, hsl_TRg), (22, .any), (23, .any)] [] [(.loc 19 0, sh_TFa_2)] X_f12_5 (fun x => [(V.ptr (.loc 19 0) []), esl_TRg x.q_21, (V.int .i64) x.q_22, (V.int .i64) x.q_23, e_TFa_2 x.m_19]) fun l => ⟨dsl_TRg (at_ l 1), dI (at_ l 2), dI (at_ l 3), d_TFa (at_ l 4)⟩
noncomputable def tt_f12_5 (D_f12_5 : Dyn X_f12_5 R_f12) (x : X_f12_5) : TT Tryz.prog R_f12 :=
 (.ite (ilt x.q_23 x.q_22)
 (.need (inb x.q_23 x.q_21.n) <|
 (.call con_f29 (x.q_21.get (Int.toNat x.q_23)) fun (y2 : R_f29) =>
 (.need (true && (room (x.m_19.rings.n + 1) 8)) <|
 (.jump S_f12_5 D_f12_5 (X_f12_5.mk x.q_21 x.q_22 (IntKind.i64.wrap (x.q_23 + 1)) (TFa.mk x.m_19.p x.m_19.threads (Sl.mk (cond (Nat.beq 1 0) x.m_19.rings.nil false) (x.m_19.rings.n + 1) (fun i3 => (Bx.mk (cond (Nat.blt i3 x.m_19.rings.n) (x.m_19.rings.get i3).nil y2.fst.nil) (TRr.mk (TRc.mk (cond (Nat.blt i3 x.m_19.rings.n) (x.m_19.rings.get i3).x.cursors.tail y2.fst.x.cursors.tail) (Sl.mk (cond (Nat.blt i3 x.m_19.rings.n) (x.m_19.rings.get i3).x.cursors.heads.nil y2.fst.x.cursors.heads.nil) (cond (Nat.blt i3 x.m_19.rings.n) (x.m_19.rings.get i3).x.cursors.heads.n y2.fst.x.cursors.heads.n) (fun i4 => (cond (Nat.blt i3 x.m_19.rings.n) ((x.m_19.rings.get i3).x.cursors.heads.get i4) (y2.fst.x.cursors.heads.get i4))))) (Bx.mk (cond (Nat.blt i3 x.m_19.rings.n) (x.m_19.rings.get i3).x.s.nil y2.fst.x.s.nil) (TSs.mk (Sl.mk (cond (Nat.blt i3 x.m_19.rings.n) (x.m_19.rings.get i3).x.s.x.l.nil y2.fst.x.s.x.l.nil) (cond (Nat.blt i3 x.m_19.rings.n) (x.m_19.rings.get i3).x.s.x.l.n y2.fst.x.s.x.l.n) (fun i4 => (TSo.mk (cond (Nat.blt i3 x.m_19.rings.n) ((x.m_19.rings.get i3).x.s.x.l.get i4).Stamp (y2.fst.x.s.x.l.get i4).Stamp) (cond (Nat.blt i3 x.m_19.rings.n) ((x.m_19.rings.get i3).x.s.x.l.get i4).Value (y2.fst.x.s.x.l.get i4).Value) (cond (Nat.blt i3 x.m_19.rings.n) ((x.m_19.rings.get i3).x.s.x.l.get i4).Left (y2.fst.x.s.x.l.get i4).Left)))) (cond (Nat.blt i3 x.m_19.rings.n) (x.m_19.rings.get i3).x.s.x.readers y2.fst.x.s.x.readers))) (cond (Nat.blt i3 x.m_19.rings.n) (x.m_19.rings.get i3).x.most y2.fst.x.most) (cond (Nat.blt i3 x.m_19.rings.n) (x.m_19.rings.get i3).x.closed y2.fst.x.closed))))) x.m_19.now x.m_19.reads x.m_19.ended))))))
 (.ret ((Bx.mk false x.m_19), 0)))
theorem sd_f12_5 (D_f12_5 : Dyn X_f12_5 R_f12) (x : X_f12_5) : (tt_f12_5 D_f12_5 x).Sides :=
  (TT.sI (TT.sN (TT.sC fun _ => (TT.sN TT.sJ))) TT.sR)
noncomputable def D_f12_5 : Dyn X_f12_5 R_f12 := Dyn.loop tt_f12_5
theorem ok_f12_5 : LabOK J_f12 S_f12_5 D_f12_5 :=
  loop_ok fun D_f12_5 h_5 => lbk mxk (lbc h_5 rfl lbn) 4000 (fun x => by kernel_rfl) (sd_f12_5 D_f12_5)
noncomputable def tt_f12 (x : X_f12) : TT Tryz.prog R_f12 :=
 (.call con_f2v x fun (y1 : R_f2v) =>
 (.ite (!y1)
 (.ret ((Bx.mk true (TFa.mk (TPg.mk (Sl.mk true 0 (fun _i2 => (TRg.mk 0 0 0))) (Sl.mk true 0 (fun _i2 => (Sl.mk true 0 (fun _i3 => (TIn.mk 0 0 0 0 0 0)))))) (Sl.mk true 0 (fun _i2 => (TTh.mk 0 0 0 0 0 (fun _i3 => (0 : Int)) (Sl.mk true 0 (fun _i3 => (0 : Int)))))) (Sl.mk true 0 (fun _i2 => (Bx.mk true (TRr.mk (TRc.mk 0 (Sl.mk true 0 (fun _i3 => (0 : Int)))) (Bx.mk true (TSs.mk (Sl.mk true 0 (fun _i3 => (TSo.mk 0 0 0))) 0)) 0 false)))) 0 0 false)), 1))
 (.call con_fs x fun (y2 : R_fs) =>
 (.need ((((upto ((x.Threads.n : Nat) : Int) (Int.toNat ((x.Threads.n : Nat) : Int))) && (ile 0 ((x.Threads.n : Nat) : Int))) && (room (Int.toNat ((x.Threads.n : Nat) : Int)) 128)) && (decide ((((x.Threads.n : Nat) : Int) ≤ (9223372036854775807 : Int))))) <|
 (.jump S_f12_5 D_f12_5 (X_f12_5.mk x.Rings ((x.Rings.n : Nat) : Int) 0 (TFa.mk y2 (Sl.mk false (Int.toNat ((x.Threads.n : Nat) : Int)) (fun _i3 => (TTh.mk 0 0 0 0 0 (fun _i4 => (0 : Int)) (Sl.mk true 0 (fun _i4 => (0 : Int)))))) (Sl.mk true 0 (fun _i3 => (Bx.mk true (TRr.mk (TRc.mk 0 (Sl.mk true 0 (fun _i4 => (0 : Int)))) (Bx.mk true (TSs.mk (Sl.mk true 0 (fun _i4 => (TSo.mk 0 0 0))) 0)) 0 false)))) 0 0 false)))))))
theorem sd_f12 (x : X_f12) : (tt_f12 x).Sides :=
  (TT.sC fun _ => (TT.sI TT.sR (TT.sC fun _ => (TT.sN TT.sJ))))
noncomputable def D_f12 : Dyn X_f12 R_f12 := .of tt_f12
noncomputable def con_f12 : Con Tryz.prog :=
  mkCon 20 J_f12 S_f12 D_f12 D_f12 (fun _ _ h => h) 1 0 [sh_TPg] (by kernel_rfl) (by kernel_rfl) (by kernel_rfl) (lbk mxk (lbc ok_f12_5 rfl lbn) 4000 (fun x => by kernel_rfl) sd_f12) rfl rfl (fun _ => rfl) (by kernel_rfl) rfl (fun _ => rfl) (fun x y _ => by kernel_rfl)
abbrev Dsl_TTh : Type := (Sl TTh)
def esl_TTh : Dsl_TTh → V := (eSl none 14 e_TTh)
def dsl_TTh : V → Dsl_TTh := (dSl d_TTh)
def hsl_TTh : Sh := (.sl none 14 (e_TTh (d_TTh .undef)))
abbrev X_fy : Type := Int × TFa
abbrev R_fy : Type := Bool
abbrev RR_fy : Type := Bool × TFa
abbrev p_fy (y : RR_fy) : TFa := y.2
abbrev w_fy (x : X_fy) : TFa := x.2
noncomputable def J_fy : Job Tryz.prog :=
  job Tryz.prog Tryz.f67 20 [] [] [] [.back (.loc 16 0)] [.any] [sh_TFa] [] RR_fy [] fun y => [V.bool y.1, e_TFa y.2]
noncomputable def S_fy : LabS :=
  lab0 Tryz.f67 2 1 X_fy (fun x => [(V.ptr (.par 0) []), (V.int .i64) x.1, e_TFa x.2]) fun l => (dI (at_ l 1), d_TFa (at_ l 2))
noncomputable def tt_fy (x : X_fy) : TT Tryz.prog RR_fy :=
 (.ite (ile 0 x.fst)
 (.need ((true && true) && (Nat.beq x.snd.threads.n x.snd.threads.n)) <|
 (.ret ((ilt x.fst ((x.snd.threads.n : Nat) : Int)), x.snd)))
 (.ret (false, x.snd)))
theorem sd_fy (x : X_fy) : (tt_fy x).Sides :=
  (TT.sI (TT.sN TT.sR) TT.sR)
theorem roT_fy (x : X_fy) : TT.Ro p_fy (w_fy x) (tt_fy x) :=
  (TT.rI (TT.rN (TT.rR rfl)) (TT.rR rfl))
noncomputable def D_fy : Dyn X_fy R_fy := .ro (.of tt_fy) (fun y => (y.1)) (fun y x => (y, x.2)) fun x y h => congrArg (fun o => (y.1, o)) (roT_fy x y h)
noncomputable def con_fy : Con Tryz.prog :=
  mkConP 67 J_fy S_fy (.of tt_fy) D_fy (fun y x => (y, x.2)) (fun _ _ h => h) (fun y => V.bool y) 2 1 [.any, .any] (by kernel_rfl) (by kernel_rfl) (by kernel_rfl) (lbk mxk lbn 4000 (fun x => by kernel_rfl) sd_fy) rfl rfl (fun _ => rfl) (by kernel_rfl) rfl (fun _ _ => rfl) (fun _ => rfl) (fun x => ⟨(nu_e_TFa : ∀ y, (e_TFa y).NoU) (x.2), trivial⟩)
abbrev X_f2i : Type := TIn × (Sl TIn)
abbrev R_f2i : Type := Bool
noncomputable def J_f2i : Job Tryz.prog :=
  job Tryz.prog Tryz.f172 19 [(2, 3)] [] [] [] [.any] [] [con_f2t, con_f2s] R_f2i [] fun y => [V.bool y]
noncomputable def S_f2i : LabS :=
  lab0 Tryz.f172 2 0 X_f2i (fun x => [e_TIn x.1, (eVp esl_TIn) x.2]) fun l => (d_TIn (at_ l 0), (dVp dsl_TIn) (at_ l 1))
noncomputable def tt_f2i (x : X_f2i) : TT Tryz.prog R_f2i :=
 (.call con_f2s x.fst fun (y1 : R_f2s) =>
 (.ite (!y1)
 (.ret true)
 (.call con_f2t x.fst fun (y2 : R_f2t) =>
 (.ite y2
 (.ret (ilt (IntKind.u64.wrap ((x.snd.n : Nat) : Int)) x.fst.K))
 (.ret false)))))
theorem sd_f2i (x : X_f2i) : (tt_f2i x).Sides :=
  (TT.sC fun _ => (TT.sI TT.sR (TT.sC fun _ => (TT.sI TT.sR TT.sR))))
noncomputable def D_f2i : Dyn X_f2i R_f2i := .of tt_f2i
noncomputable def con_f2i : Con Tryz.prog :=
  mkCon 172 J_f2i S_f2i D_f2i D_f2i (fun _ _ h => h) 2 0 [.any, .any] (by kernel_rfl) (by kernel_rfl) (by kernel_rfl) (lbk mxk lbn 4000 (fun x => by kernel_rfl) sd_f2i) rfl rfl (fun _ => rfl) (by kernel_rfl) rfl (fun _ => rfl) (fun x y _ => by kernel_rfl)
abbrev X_f8 : Type := (Sl TIn) × ((Sl TIn))
abbrev R_f8 : Type := Int
noncomputable def J_f8 : Job Tryz.prog :=
  job Tryz.prog Tryz.f197 19 [] [] [] [] [.any] [] [con_f2i] R_f8 [] fun y => [(V.int .i64) y]
noncomputable def S_f8 : LabS :=
  lab0 Tryz.f197 2 0 X_f8 (fun x => [esl_TIn x.1, (fun x : ((Sl TIn)) => V.fn 172 (V.cons ((eVp esl_TIn) x) (V.unit))) x.2]) fun l => (dsl_TIn (at_ l 0), (fun v => ((dVp dsl_TIn) (fd (fnc v) 0) : ((Sl TIn)))) (at_ l 1))
structure X_f8_2 where
  s_0 : (Sl TIn)
  f_1 : ((Sl TIn))
  q_7 : Int
  q_8 : Int
noncomputable def S_f8_2 : LabS :=
  labAt Tryz.f197 2 [(0, hsl_TIn), (1, .any), (7, .any), (8, .any)] [] [] X_f8_2 (fun x => [esl_TIn x.s_0, (fun x : ((Sl TIn)) => V.fn 172 (V.cons ((eVp esl_TIn) x) (V.unit))) x.f_1, (V.int .i64) x.q_7, (V.int .i64) x.q_8]) fun l => ⟨dsl_TIn (at_ l 0), (fun v => ((dVp dsl_TIn) (fd (fnc v) 0) : ((Sl TIn)))) (at_ l 1), dI (at_ l 2), dI (at_ l 3)⟩
noncomputable def tt_f8_2 (D_f8_2 : Dyn X_f8_2 R_f8) (x : X_f8_2) : TT Tryz.prog R_f8 :=
 (.ite (ilt x.q_8 x.q_7)
 (.need (inb x.q_8 x.s_0.n) <|
 (.call con_f2i ((x.s_0.get (Int.toNat x.q_8)), x.f_1) fun (y2 : R_f2i) =>
 (.ite y2
 (.ret x.q_8)
 (.jump S_f8_2 D_f8_2 (X_f8_2.mk x.s_0 x.f_1 x.q_7 (IntKind.i64.wrap (x.q_8 + 1)))))))
 (.ret (-(1 : Int))))
theorem sd_f8_2 (D_f8_2 : Dyn X_f8_2 R_f8) (x : X_f8_2) : (tt_f8_2 D_f8_2 x).Sides :=
  (TT.sI (TT.sN (TT.sC fun _ => (TT.sI TT.sR TT.sJ))) TT.sR)
noncomputable def D_f8_2 : Dyn X_f8_2 R_f8 := Dyn.loop tt_f8_2
theorem ok_f8_2 : LabOK J_f8 S_f8_2 D_f8_2 :=
  loop_ok fun D_f8_2 h_2 => lbk mxk (lbc h_2 rfl lbn) 4000 (fun x => by kernel_rfl) (sd_f8_2 D_f8_2)
noncomputable def tt_f8 (x : X_f8) : TT Tryz.prog R_f8 :=
 (.jump S_f8_2 D_f8_2 (X_f8_2.mk x.fst x.snd ((x.fst.n : Nat) : Int) 0))
theorem sd_f8 (x : X_f8) : (tt_f8 x).Sides :=
  TT.sJ
noncomputable def D_f8 : Dyn X_f8 R_f8 := .of tt_f8
noncomputable def con_f8 : Con Tryz.prog :=
  mkCon 197 J_f8 S_f8 D_f8 D_f8 (fun _ _ h => h) 2 0 [hsl_TIn, .any] (by kernel_rfl) (by kernel_rfl) (by kernel_rfl) (lbk mxk (lbc ok_f8_2 rfl lbn) 4000 (fun x => by kernel_rfl) sd_f8) rfl rfl (fun _ => rfl) (by kernel_rfl) rfl (fun _ => rfl) (fun x y _ => by kernel_rfl)
abbrev X_fj : Type := (Sl TIn) × ((Sl TIn))
abbrev R_fj : Type := Bool
noncomputable def J_fj : Job Tryz.prog :=
  job Tryz.prog Tryz.f171 9 [(5, 1)] [] [] [] [.any] [] [con_f8] R_fj [] fun y => [V.bool y]
noncomputable def S_fj : LabS :=
  lab0 Tryz.f171 2 0 X_fj (fun x => [esl_TIn x.1, (fun x : ((Sl TIn)) => V.fn 172 (V.cons ((eVp esl_TIn) x) (V.unit))) x.2]) fun l => (dsl_TIn (at_ l 0), (fun v => ((dVp dsl_TIn) (fd (fnc v) 0) : ((Sl TIn)))) (at_ l 1))
noncomputable def tt_fj (x : X_fj) : TT Tryz.prog R_fj :=
 (.call con_f8 x fun (y1 : R_f8) =>
 (.ret (ile 0 y1)))
theorem sd_fj (x : X_fj) : (tt_fj x).Sides :=
  (TT.sC fun _ => TT.sR)
noncomputable def D_fj : Dyn X_fj R_fj := .of tt_fj
noncomputable def con_fj : Con Tryz.prog :=
  mkCon 171 J_fj S_fj D_fj D_fj (fun _ _ h => h) 2 0 [hsl_TIn, .any] (by kernel_rfl) (by kernel_rfl) (by kernel_rfl) (lbk mxk lbn 4000 (fun x => by kernel_rfl) sd_fj) rfl rfl (fun _ => rfl) (by kernel_rfl) rfl (fun _ => rfl) (fun x y _ => by kernel_rfl)
abbrev X_f2w : Type := (Sl TIn)
abbrev R_f2w : Type := Bool
noncomputable def J_f2w : Job Tryz.prog :=
  job Tryz.prog Tryz.f130 10 [(1, 3)] [] [] [] [.any] [] [con_fj] R_f2w [] fun y => [V.bool y]
noncomputable def S_f2w : LabS :=
  lab0 Tryz.f130 1 0 X_f2w (fun x => [esl_TIn x]) fun l => (dsl_TIn (at_ l 0))
noncomputable def tt_f2w (x : X_f2w) : TT Tryz.prog R_f2w :=
 (.ite (ilt 256 ((x.n : Nat) : Int))
 (.ret false)
 (.call con_fj (x, x) fun (y1 : R_fj) =>
 (.ret (!y1))))
theorem sd_f2w (x : X_f2w) : (tt_f2w x).Sides :=
  (TT.sI TT.sR (TT.sC fun _ => TT.sR))
noncomputable def D_f2w : Dyn X_f2w R_f2w := .of tt_f2w
noncomputable def con_f2w : Con Tryz.prog :=
  mkCon 130 J_f2w S_f2w D_f2w D_f2w (fun _ _ h => h) 1 0 [hsl_TIn] (by kernel_rfl) (by kernel_rfl) (by kernel_rfl) (lbk mxk lbn 4000 (fun x => by kernel_rfl) sd_f2w) rfl rfl (fun _ => rfl) (by kernel_rfl) rfl (fun _ => rfl) (fun x y _ => by kernel_rfl)
abbrev X_fn : Type := (Sl TIn) × TTh
abbrev R_fn : Type := Bool
noncomputable def J_fn : Job Tryz.prog :=
  job Tryz.prog Tryz.f77 88 [(3, 3), (62, 1)] [] [] [] [.any] [] [con_f2w] R_fn [] fun y => [V.bool y]
noncomputable def S_fn : LabS :=
  lab0 Tryz.f77 2 0 X_fn (fun x => [esl_TIn x.1, e_TTh x.2]) fun l => (dsl_TIn (at_ l 0), d_TTh (at_ l 1))
structure X_fn_3 where
  l_0 : (Sl TIn)
  s_3 : TTh
noncomputable def S_fn_3 : LabS :=
  labAt Tryz.f77 3 [(0, hsl_TIn), (3, .any)] [] [] X_fn_3 (fun x => [esl_TIn x.l_0, (eVp e_TTh) x.s_3]) fun l => ⟨dsl_TIn (at_ l 0), (dVp d_TTh) (at_ l 1)⟩
structure X_fn_7 where
  l_0 : (Sl TIn)
  s_3 : TTh
noncomputable def S_fn_7 : LabS :=
  labAt Tryz.f77 7 [(0, hsl_TIn), (3, .any)] [] [] X_fn_7 (fun x => [esl_TIn x.l_0, (eVp e_TTh) x.s_3]) fun l => ⟨dsl_TIn (at_ l 0), (dVp d_TTh) (at_ l 1)⟩
noncomputable def tt_fn_7 (x : X_fn_7) : TT Tryz.prog R_fn :=
 (.need (inb x.s_3.At x.l_0.n) <|
 (.need (inb (IntKind.i64.wrap (x.s_3.Phase - 1)) 2) <|
 (.ite (ieq (x.l_0.get (Int.toNat x.s_3.At)).Op (cond (Nat.beq (Int.toNat (IntKind.i64.wrap (x.s_3.Phase - 1))) 0) (18 : Int) (19 : Int)))
 (.ite (ieq (x.l_0.get (Int.toNat x.s_3.At)).C x.s_3.Ring)
 (.ret (ilt x.s_3.Ticket 4611686018427387904))
 (.ret false))
 (.ret false))))
theorem sd_fn_7 (x : X_fn_7) : (tt_fn_7 x).Sides :=
  (TT.sN (TT.sN (TT.sI (TT.sI TT.sR TT.sR) TT.sR)))
noncomputable def D_fn_7 : Dyn X_fn_7 R_fn := .of tt_fn_7
theorem ok_fn_7 : LabOK J_fn S_fn_7 D_fn_7 :=
  lbk mxk lbn 4000 (fun x => by kernel_rfl) sd_fn_7
noncomputable def tt_fn_3 (x : X_fn_3) : TT Tryz.prog R_fn :=
 (.ite (ieq x.s_3.Phase 0)
 (.ite (ieq x.s_3.Ring 0)
 (.ret (ieq x.s_3.Ticket 0))
 (.ret false))
 (.ite (!(ieq x.s_3.Status 0))
 (.ret false)
 (.ite (ieq x.s_3.At ((x.l_0.n : Nat) : Int))
 (.ret false)
 (.jump S_fn_7 D_fn_7 (X_fn_7.mk x.l_0 x.s_3)))))
theorem sd_fn_3 (x : X_fn_3) : (tt_fn_3 x).Sides :=
  (TT.sI (TT.sI TT.sR TT.sR) (TT.sI TT.sR (TT.sI TT.sR TT.sJ)))
noncomputable def D_fn_3 : Dyn X_fn_3 R_fn := .of tt_fn_3
theorem ok_fn_3 : LabOK J_fn S_fn_3 D_fn_3 :=
  lbk mxk (lbc ok_fn_7 rfl lbn) 4000 (fun x => by kernel_rfl) sd_fn_3
noncomputable def tt_fn (x : X_fn) : TT Tryz.prog R_fn :=
 (.call con_f2w x.fst fun (y1 : R_f2w) =>
 (.ite (!y1)
 (.ret false)
 (.ite (ilt x.snd.At 0)
 (.ret false)
 (.ite (ilt ((x.fst.n : Nat) : Int) x.snd.At)
 (.ret false)
 (.ite (ilt x.snd.Status 0)
 (.ret false)
 (.ite (ilt 2 x.snd.Status)
 (.ret false)
 (.ite (ilt x.snd.Phase 0)
 (.ret false)
 (.ite (ilt 2 x.snd.Phase)
 (.ret false)
 (.jump S_fn_3 D_fn_3 (X_fn_3.mk x.fst x.snd))))))))))
theorem sd_fn (x : X_fn) : (tt_fn x).Sides :=
  (TT.sC fun _ => (TT.sI TT.sR (TT.sI TT.sR (TT.sI TT.sR (TT.sI TT.sR (TT.sI TT.sR (TT.sI TT.sR (TT.sI TT.sR TT.sJ))))))))
noncomputable def D_fn : Dyn X_fn R_fn := .of tt_fn
noncomputable def con_fn : Con Tryz.prog :=
  mkCon 77 J_fn S_fn D_fn D_fn (fun _ _ h => h) 2 0 [hsl_TIn, sh_TTh] (by kernel_rfl) (by kernel_rfl) (by kernel_rfl) (lbk mxk (lbc ok_fn_7 rfl (lbc ok_fn_3 rfl lbn)) 4000 (fun x => by kernel_rfl) sd_fn) rfl rfl (fun _ => rfl) (by kernel_rfl) rfl (fun _ => rfl) (fun x y _ => by kernel_rfl)
abbrev X_f32 : Type := Int
abbrev R_f32 : Type := Bool
noncomputable def J_f32 : Job Tryz.prog :=
  job Tryz.prog Tryz.f187 9 [] [] [] [] [.any] [] [] R_f32 [] fun y => [V.bool y]
noncomputable def S_f32 : LabS :=
  lab0 Tryz.f187 1 0 X_f32 (fun x => [(V.int .i64) x]) fun l => (dI (at_ l 0))
noncomputable def tt_f32 (x : X_f32) : TT Tryz.prog R_f32 :=
 (.ite (ile 18 x)
 (.ret (ile x 25))
 (.ret false))
theorem sd_f32 (x : X_f32) : (tt_f32 x).Sides :=
  (TT.sI TT.sR TT.sR)
noncomputable def D_f32 : Dyn X_f32 R_f32 := .of tt_f32
noncomputable def con_f32 : Con Tryz.prog :=
  mkCon 187 J_f32 S_f32 D_f32 D_f32 (fun _ _ h => h) 1 0 [.any] (by kernel_rfl) (by kernel_rfl) (by kernel_rfl) (lbk mxk lbn 4000 (fun x => by kernel_rfl) sd_f32) rfl rfl (fun _ => rfl) (by kernel_rfl) rfl (fun _ => rfl) (fun x y _ => by kernel_rfl)
abbrev X_f2o : Type := Int × Int
abbrev R_f2o : Type := Int
noncomputable def J_f2o : Job Tryz.prog :=
  job Tryz.prog Tryz.f201 10 [] [] [] [] [.any] [] [] R_f2o [] fun y => [(V.int .u64) y]
noncomputable def S_f2o : LabS :=
  lab0 Tryz.f201 2 0 X_f2o (fun x => [(V.int .u64) x.1, (V.int .u64) x.2]) fun l => (dI (at_ l 0), dI (at_ l 1))
noncomputable def tt_f2o (x : X_f2o) : TT Tryz.prog R_f2o :=
 (.ite (ieq x.snd 0)
 (.ret 0)
 (.need (!(ieq x.snd 0)) <|
 (.ret (IntKind.u64.wrap (Int.tdiv x.fst x.snd)))))
theorem sd_f2o (x : X_f2o) : (tt_f2o x).Sides :=
  (TT.sI TT.sR (TT.sN TT.sR))
noncomputable def D_f2o : Dyn X_f2o R_f2o := .of tt_f2o
noncomputable def con_f2o : Con Tryz.prog :=
  mkCon 201 J_f2o S_f2o D_f2o D_f2o (fun _ _ h => h) 2 0 [.any, .any] (by kernel_rfl) (by kernel_rfl) (by kernel_rfl) (lbk mxk lbn 4000 (fun x => by kernel_rfl) sd_f2o) rfl rfl (fun _ => rfl) (by kernel_rfl) rfl (fun _ => rfl) (fun x y _ => by kernel_rfl)
abbrev X_f37 : Type := Int × Int
abbrev R_f37 : Type := Int
noncomputable def J_f37 : Job Tryz.prog :=
  job Tryz.prog Tryz.f202 10 [] [] [] [] [.any] [] [] R_f37 [] fun y => [(V.int .u64) y]
noncomputable def S_f37 : LabS :=
  lab0 Tryz.f202 2 0 X_f37 (fun x => [(V.int .u64) x.1, (V.int .u64) x.2]) fun l => (dI (at_ l 0), dI (at_ l 1))
noncomputable def tt_f37 (x : X_f37) : TT Tryz.prog R_f37 :=
 (.ite (ieq x.snd 0)
 (.ret 0)
 (.need (!(ieq x.snd 0)) <|
 (.ret (Int.tmod x.fst x.snd))))
theorem sd_f37 (x : X_f37) : (tt_f37 x).Sides :=
  (TT.sI TT.sR (TT.sN TT.sR))
noncomputable def D_f37 : Dyn X_f37 R_f37 := .of tt_f37
noncomputable def con_f37 : Con Tryz.prog :=
  mkCon 202 J_f37 S_f37 D_f37 D_f37 (fun _ _ h => h) 2 0 [.any, .any] (by kernel_rfl) (by kernel_rfl) (by kernel_rfl) (lbk mxk lbn 4000 (fun x => by kernel_rfl) sd_f37) rfl rfl (fun _ => rfl) (by kernel_rfl) rfl (fun _ => rfl) (fun x y _ => by kernel_rfl)
abbrev X_f3b : Type := Bool
abbrev R_f3b : Type := Int
noncomputable def J_f3b : Job Tryz.prog :=
  job Tryz.prog Tryz.f203 4 [] [] [] [] [.any] [] [] R_f3b [] fun y => [(V.int .u64) y]
noncomputable def S_f3b : LabS :=
  lab0 Tryz.f203 1 0 X_f3b (fun x => [V.bool x]) fun l => (dB (at_ l 0))
noncomputable def tt_f3b (x : X_f3b) : TT Tryz.prog R_f3b :=
 (.ite x
 (.ret 1)
 (.ret 0))
theorem sd_f3b (x : X_f3b) : (tt_f3b x).Sides :=
  (TT.sI TT.sR TT.sR)
noncomputable def D_f3b : Dyn X_f3b R_f3b := .of tt_f3b
noncomputable def con_f3b : Con Tryz.prog :=
  mkCon 203 J_f3b S_f3b D_f3b D_f3b (fun _ _ h => h) 1 0 [.any] (by kernel_rfl) (by kernel_rfl) (by kernel_rfl) (lbk mxk lbn 4000 (fun x => by kernel_rfl) sd_f3b) rfl rfl (fun _ => rfl) (by kernel_rfl) rfl (fun _ => rfl) (fun x y _ => by kernel_rfl)
abbrev X_f3d : Type := Int × Int × Int
abbrev R_f3d : Type := Int × Bool
noncomputable def J_f3d : Job Tryz.prog :=
  job Tryz.prog Tryz.f199 73 [] [] [] [] [.any, .any] [] [con_f3b, con_f2o, con_f37] R_f3d [] fun y => [V.tup (V.cons ((V.int .u64) y.1) (V.cons (V.bool y.2) (V.unit)))]
noncomputable def S_f3d : LabS :=
  lab0 Tryz.f199 3 0 X_f3d (fun x => [(V.int .i64) x.1, (V.int .u64) x.2.1, (V.int .u64) x.2.2]) fun l => (dI (at_ l 0), dI (at_ l 1), dI (at_ l 2))
noncomputable def tt_f3d (x : X_f3d) : TT Tryz.prog R_f3d :=
 (.ite (ieq x.fst 3)
 (.ret ((IntKind.u64.wrap (x.snd.fst + x.snd.snd)), true))
 (.ite (ieq x.fst 4)
 (.ret ((IntKind.u64.wrap (x.snd.fst - x.snd.snd)), true))
 (.ite (ieq x.fst 5)
 (.ret ((IntKind.u64.wrap (x.snd.fst * x.snd.snd)), true))
 (.ite (ieq x.fst 6)
 (.call con_f2o x.snd fun (y1 : R_f2o) =>
 (.ret (y1, true)))
 (.ite (ieq x.fst 7)
 (.call con_f37 x.snd fun (y1 : R_f37) =>
 (.ret (y1, true)))
 (.ite (ieq x.fst 8)
 (.ret ((Vm.bits .and IntKind.u64 x.snd.fst x.snd.snd), true))
 (.ite (ieq x.fst 9)
 (.ret ((Vm.bits .or IntKind.u64 x.snd.fst x.snd.snd), true))
 (.ite (ieq x.fst 10)
 (.ret ((Vm.bits .xor IntKind.u64 x.snd.fst x.snd.snd), true))
 (.ite (ieq x.fst 11)
 (.ret ((shl IntKind.u64 x.snd.fst (Vm.bits .and IntKind.u64 x.snd.snd 63)), true))
 (.ite (ieq x.fst 12)
 (.ret ((shr IntKind.u64 x.snd.fst (Vm.bits .and IntKind.u64 x.snd.snd 63)), true))
 (.ite (ieq x.fst 13)
 (.call con_f3b (ilt x.snd.fst x.snd.snd) fun (y1 : R_f3b) =>
 (.ret (y1, true)))
 (.ite (ieq x.fst 14)
 (.call con_f3b (ieq x.snd.fst x.snd.snd) fun (y1 : R_f3b) =>
 (.ret (y1, true)))
 (.ret (0, false))))))))))))))
theorem sd_f3d (x : X_f3d) : (tt_f3d x).Sides :=
  (TT.sI TT.sR (TT.sI TT.sR (TT.sI TT.sR (TT.sI (TT.sC fun _ => TT.sR) (TT.sI (TT.sC fun _ => TT.sR) (TT.sI TT.sR (TT.sI TT.sR (TT.sI TT.sR (TT.sI TT.sR (TT.sI TT.sR (TT.sI (TT.sC fun _ => TT.sR) (TT.sI (TT.sC fun _ => TT.sR) TT.sR))))))))))))
noncomputable def D_f3d : Dyn X_f3d R_f3d := .of tt_f3d
noncomputable def con_f3d : Con Tryz.prog :=
  mkCon 199 J_f3d S_f3d D_f3d D_f3d (fun _ _ h => h) 3 0 [.any, .any, .any] (by kernel_rfl) (by kernel_rfl) (by kernel_rfl) (lbk mxk lbn 4000 (fun x => by kernel_rfl) sd_f3d) rfl rfl (fun _ => rfl) (by kernel_rfl) rfl (fun _ => rfl) (fun x y _ => by kernel_rfl)
abbrev DslA_u64 : Type := (Sl Int)
def eslA_u64 : DslA_u64 → V := (eSl (some 35) 1 (V.int .u64))
def dslA_u64 : V → DslA_u64 := (dSl dI)
def hslA_u64 : Sh := (.sl (some 35) 1 (V.int .u64 0))
def e_TTh_6 (x : TTh) : V :=
  V.cons ((V.int .i64) x.At) (V.cons ((V.int .i64) x.Phase) (V.cons ((V.int .i64) x.Ring) (V.cons ((V.int .i64) x.Status) (V.cons ((V.int .u64) x.Ticket) (V.cons ((eArr 1 8 (V.int .u64)) x.Regs) (V.cons (eslA_u64 x.Seen) (V.unit)))))))
theorem nu_e_TTh_6 (x : TTh) : (e_TTh_6 x).NoU := ⟨trivial, trivial, trivial, trivial, trivial, (fun _ _ => trivial : ∀ y, ((eArr 1 8 (V.int .u64)) y).NoU) x.Regs, trivial, trivial⟩
def sh_TTh_6 : Sh := (.cons .any (.cons .any (.cons .any (.cons .any (.cons .any (.cons .any (.cons hslA_u64 .any)))))))
abbrev X_f2j : Type := TIn × TTh
abbrev R_f2j : Type := TTh
noncomputable def J_f2j : Job Tryz.prog :=
  job Tryz.prog Tryz.f188 90 [(2, 3), (17, 1)] [] [] [] [] [sh_TTh_6] [con_f3d] R_f2j [] fun y => [V.tup (V.unit), e_TTh_6 y]
noncomputable def S_f2j : LabS :=
  lab0 Tryz.f188 2 1 X_f2j (fun x => [e_TIn x.1, (V.ptr (.par 0) []), e_TTh_6 x.2]) fun l => (d_TIn (at_ l 0), d_TTh (at_ l 2))
noncomputable def tt_f2j (x : X_f2j) : TT Tryz.prog R_f2j :=
 (.ite (ieq x.fst.Op 1)
 (.need (inb x.fst.A 8) <|
 (.ret (TTh.mk (IntKind.i64.wrap (x.snd.At + 1)) x.snd.Phase x.snd.Ring x.snd.Status x.snd.Ticket (fun i1 => (cond (Nat.beq i1 (Int.toNat x.fst.A)) x.fst.K (x.snd.Regs i1))) x.snd.Seen)))
 (.ite (ieq x.fst.Op 2)
 (.need (inb x.fst.B 8) <|
 (.need (inb x.fst.A 8) <|
 (.ret (TTh.mk (IntKind.i64.wrap (x.snd.At + 1)) x.snd.Phase x.snd.Ring x.snd.Status x.snd.Ticket (fun i1 => (cond (Nat.beq i1 (Int.toNat x.fst.A)) (x.snd.Regs (Int.toNat x.fst.B)) (x.snd.Regs i1))) x.snd.Seen))))
 (.ite (ieq x.fst.Op 15)
 (.ret (TTh.mk (IntKind.i64.wrap x.fst.K) x.snd.Phase x.snd.Ring x.snd.Status x.snd.Ticket x.snd.Regs x.snd.Seen))
 (.ite (ieq x.fst.Op 16)
 (.need (inb x.fst.A 8) <|
 (.ite ((ieq (x.snd.Regs (Int.toNat x.fst.A)) 0) == (ieq x.fst.Op 16))
 (.ret (TTh.mk (IntKind.i64.wrap x.fst.K) x.snd.Phase x.snd.Ring x.snd.Status x.snd.Ticket x.snd.Regs x.snd.Seen))
 (.ret (TTh.mk (IntKind.i64.wrap (x.snd.At + 1)) x.snd.Phase x.snd.Ring x.snd.Status x.snd.Ticket x.snd.Regs x.snd.Seen))))
 (.ite (ieq x.fst.Op 17)
 (.need (inb x.fst.A 8) <|
 (.ite ((ieq (x.snd.Regs (Int.toNat x.fst.A)) 0) == (ieq x.fst.Op 16))
 (.ret (TTh.mk (IntKind.i64.wrap x.fst.K) x.snd.Phase x.snd.Ring x.snd.Status x.snd.Ticket x.snd.Regs x.snd.Seen))
 (.ret (TTh.mk (IntKind.i64.wrap (x.snd.At + 1)) x.snd.Phase x.snd.Ring x.snd.Status x.snd.Ticket x.snd.Regs x.snd.Seen))))
 (.need (inb x.fst.B 8) <|
 (.need (inb x.fst.C 8) <|
 (.call con_f3d (x.fst.Op, ((x.snd.Regs (Int.toNat x.fst.B)), (x.snd.Regs (Int.toNat x.fst.C)))) fun (y1 : R_f3d) =>
 (.need (inb x.fst.A 8) <|
 (.ret (TTh.mk (IntKind.i64.wrap (x.snd.At + 1)) x.snd.Phase x.snd.Ring x.snd.Status x.snd.Ticket (fun i2 => (cond (Nat.beq i2 (Int.toNat x.fst.A)) y1.fst (x.snd.Regs i2))) x.snd.Seen)))))))))))
theorem sd_f2j (x : X_f2j) : (tt_f2j x).Sides :=
  (TT.sI (TT.sN TT.sR) (TT.sI (TT.sN (TT.sN TT.sR)) (TT.sI TT.sR (TT.sI (TT.sN (TT.sI TT.sR TT.sR)) (TT.sI (TT.sN (TT.sI TT.sR TT.sR)) (TT.sN (TT.sN (TT.sC fun _ => (TT.sN TT.sR)))))))))
noncomputable def D_f2j : Dyn X_f2j R_f2j := .of tt_f2j
noncomputable def con_f2j : Con Tryz.prog :=
  mkCon 188 J_f2j S_f2j D_f2j D_f2j (fun _ _ h => h) 2 1 [.any, .any] (by kernel_rfl) (by kernel_rfl) (by kernel_rfl) (lbk mxk lbn 4000 (fun x => by kernel_rfl) sd_f2j) rfl rfl (fun _ => rfl) (by kernel_rfl) rfl (fun _ => rfl) (fun x y _ => by kernel_rfl)
structure TAk where
  Kind : Int
  Ring : Int
  Mode : Int
  Reader : Int
  Ticket : Int
  Value : Int
def d_TAk (v : V) : TAk :=
  ⟨dI (fd v 0), dI (fd v 1), dI (fd v 2), dI (fd v 3), dI (fd v 4), dI (fd v 5)⟩
def e_TAk (x : TAk) : V :=
  V.cons ((V.int .i64) x.Kind) (V.cons ((V.int .i64) x.Ring) (V.cons ((V.int .i64) x.Mode) (V.cons ((V.int .i64) x.Reader) (V.cons ((V.int .u64) x.Ticket) (V.cons ((V.int .u64) x.Value) (V.unit))))))
theorem nu_e_TAk (x : TAk) : (e_TAk x).NoU := ⟨trivial, trivial, trivial, trivial, trivial, trivial, trivial⟩
abbrev X_f2x : Type := TIn × TTh
abbrev R_f2x : Type := TAk
noncomputable def J_f2x : Job Tryz.prog :=
  job Tryz.prog Tryz.f190 52 [(2, 3), (3, 3)] [] [] [] [.any] [] [] R_f2x [] fun y => [e_TAk y]
noncomputable def S_f2x : LabS :=
  lab0 Tryz.f190 2 0 X_f2x (fun x => [e_TIn x.1, e_TTh x.2]) fun l => (d_TIn (at_ l 0), d_TTh (at_ l 1))
noncomputable def tt_f2x (x : X_f2x) : TT Tryz.prog R_f2x :=
 (.ite (ieq x.fst.Op 18)
 (.need (inb x.fst.A 8) <|
 (.ret (TAk.mk 1 x.fst.C x.fst.D 0 0 (x.snd.Regs (Int.toNat x.fst.A)))))
 (.ite (ieq x.fst.Op 19)
 (.ret (TAk.mk 2 x.fst.C x.fst.D (IntKind.i64.wrap x.fst.K) 0 0))
 (.ite (ieq x.fst.Op 20)
 (.ret (TAk.mk 3 x.fst.C 0 0 0 0))
 (.ite (ieq x.fst.Op 21)
 (.ret (TAk.mk 4 0 0 0 0 0))
 (.ite (ieq x.fst.Op 22)
 (.ret (TAk.mk 5 0 0 0 0 0))
 (.ite (ieq x.fst.Op 23)
 (.ret (TAk.mk 6 0 0 0 0 0))
 (.ite (ieq x.fst.Op 24)
 (.need (inb x.fst.A 8) <|
 (.ret (TAk.mk 7 0 0 0 0 (x.snd.Regs (Int.toNat x.fst.A)))))
 (.ret (TAk.mk 8 0 0 0 0 0)))))))))
theorem sd_f2x (x : X_f2x) : (tt_f2x x).Sides :=
  (TT.sI (TT.sN TT.sR) (TT.sI TT.sR (TT.sI TT.sR (TT.sI TT.sR (TT.sI TT.sR (TT.sI TT.sR (TT.sI (TT.sN TT.sR) TT.sR)))))))
noncomputable def D_f2x : Dyn X_f2x R_f2x := .of tt_f2x
noncomputable def con_f2x : Con Tryz.prog :=
  mkCon 190 J_f2x S_f2x D_f2x D_f2x (fun _ _ h => h) 2 0 [.any, sh_TTh] (by kernel_rfl) (by kernel_rfl) (by kernel_rfl) (lbk mxk lbn 4000 (fun x => by kernel_rfl) sd_f2x) rfl rfl (fun _ => rfl) (by kernel_rfl) rfl (fun _ => rfl) (fun x y _ => by kernel_rfl)
abbrev X_fa : Type := (Sl TIn) × TTh
abbrev R_fa : Type := TTh × TAk
noncomputable def J_fa : Job Tryz.prog :=
  job Tryz.prog Tryz.f155 97 [(10, 1), (16, 1), (21, 1), (35, 1), (40, 1), (77, 1), (87, 1), (89, 1), (90, 1)] [] [] [] [sh_TTh_6, .any] [] [con_f2r, con_f32, con_f2x, con_f2j] R_fa [] fun y => [V.tup (V.cons (e_TTh_6 y.1) (V.cons (e_TAk y.2) (V.unit)))]
noncomputable def S_fa : LabS :=
  lab0 Tryz.f155 2 0 X_fa (fun x => [esl_TIn x.1, e_TTh_6 x.2]) fun l => (dsl_TIn (at_ l 0), d_TTh (at_ l 1))
structure X_fa_8 where
  l_0 : (Sl TIn)
  q_48 : Int
  m_3 : TTh
  m_4 : TTh
  m_5 : TAk
noncomputable def S_fa_8 : LabS :=
  labAt Tryz.f155 8 [(0, hsl_TIn), (3, .any), (4, .any), (5, .any), (48, .any)] [] [(.loc 3 0, sh_TTh_6), (.loc 4 0, sh_TTh_6), (.loc 5 0, .any)] X_fa_8 (fun x => [esl_TIn x.l_0, (V.ptr (.loc 3 0) []), (V.ptr (.loc 4 0) []), (V.ptr (.loc 5 0) []), (V.int .i64) x.q_48, e_TTh_6 x.m_3, e_TTh_6 x.m_4, e_TAk x.m_5]) fun l => ⟨dsl_TIn (at_ l 0), dI (at_ l 4), d_TTh (at_ l 5), d_TTh (at_ l 6), d_TAk (at_ l 7)⟩
structure X_fa_10 where
  l_0 : (Sl TIn)
  q_48 : Int
  m_3 : TTh
  m_4 : TTh
  m_5 : TAk
noncomputable def S_fa_10 : LabS :=
  labAt Tryz.f155 10 [(0, hsl_TIn), (3, .any), (4, .any), (5, .any), (48, .any)] [] [(.loc 3 0, sh_TTh_6), (.loc 4 0, sh_TTh_6), (.loc 5 0, .any)] X_fa_10 (fun x => [esl_TIn x.l_0, (V.ptr (.loc 3 0) []), (V.ptr (.loc 4 0) []), (V.ptr (.loc 5 0) []), (V.int .i64) x.q_48, e_TTh_6 x.m_3, e_TTh_6 x.m_4, e_TAk x.m_5]) fun l => ⟨dsl_TIn (at_ l 0), dI (at_ l 4), d_TTh (at_ l 5), d_TTh (at_ l 6), d_TAk (at_ l 7)⟩
structure X_fa_11 where
  l_0 : (Sl TIn)
  q_48 : Int
  m_3 : TTh
  m_4 : TTh
  m_5 : TAk
noncomputable def S_fa_11 : LabS :=
  labAt Tryz.f155 11 [(0, hsl_TIn), (3, .any), (4, .any), (5, .any), (48, .any)] [] [(.loc 3 0, sh_TTh_6), (.loc 4 0, sh_TTh_6), (.loc 5 0, .any)] X_fa_11 (fun x => [esl_TIn x.l_0, (V.ptr (.loc 3 0) []), (V.ptr (.loc 4 0) []), (V.ptr (.loc 5 0) []), (V.int .i64) x.q_48, e_TTh_6 x.m_3, e_TTh_6 x.m_4, e_TAk x.m_5]) fun l => ⟨dsl_TIn (at_ l 0), dI (at_ l 4), d_TTh (at_ l 5), d_TTh (at_ l 6), d_TAk (at_ l 7)⟩
structure X_fa_12 where
  l_0 : (Sl TIn)
  m_3 : TTh
  m_4 : TTh
  m_5 : TAk
noncomputable def S_fa_12 : LabS :=
  labAt Tryz.f155 12 [(0, hsl_TIn), (3, .any), (4, .any), (5, .any)] [] [(.loc 3 0, sh_TTh_6), (.loc 4 0, sh_TTh_6), (.loc 5 0, .any)] X_fa_12 (fun x => [esl_TIn x.l_0, (V.ptr (.loc 3 0) []), (V.ptr (.loc 4 0) []), (V.ptr (.loc 5 0) []), e_TTh_6 x.m_3, e_TTh_6 x.m_4, e_TAk x.m_5]) fun l => ⟨dsl_TIn (at_ l 0), d_TTh (at_ l 4), d_TTh (at_ l 5), d_TAk (at_ l 6)⟩
noncomputable def tt_fa_12 (x : X_fa_12) : TT Tryz.prog R_fa :=
 (.ite (ieq x.m_3.At ((x.l_0.n : Nat) : Int))
 (.ret (x.m_3, (TAk.mk 8 0 0 0 0 0)))
 (.need (inb x.m_3.At x.l_0.n) <|
 (.call con_f2r (x.l_0.get (Int.toNat x.m_3.At)).Op fun (y1 : R_f2r) =>
 (.ite y1
 (.ret (x.m_3, (TAk.mk 9 0 0 0 0 0)))
 (.need (inb x.m_3.At x.l_0.n) <|
 (.call con_f2x ((x.l_0.get (Int.toNat x.m_3.At)), x.m_3) fun (y2 : R_f2x) =>
 (.ret (x.m_3, y2))))))))
theorem sd_fa_12 (x : X_fa_12) : (tt_fa_12 x).Sides :=
  (TT.sI TT.sR (TT.sN (TT.sC fun _ => (TT.sI TT.sR (TT.sN (TT.sC fun _ => TT.sR))))))
noncomputable def D_fa_12 : Dyn X_fa_12 R_fa := .of tt_fa_12
theorem ok_fa_12 : LabOK J_fa S_fa_12 D_fa_12 :=
  lbk mxk lbn 4000 (fun x => by kernel_rfl) sd_fa_12
noncomputable def tt_fa_11 (D_fa_8 : Dyn X_fa_8 R_fa) (x : X_fa_11) : TT Tryz.prog R_fa :=
 (.jump S_fa_8 D_fa_8 (X_fa_8.mk x.l_0 (IntKind.i64.wrap (x.q_48 + 1)) x.m_3 x.m_4 x.m_5))
theorem sd_fa_11 (D_fa_8 : Dyn X_fa_8 R_fa) (x : X_fa_11) : (tt_fa_11 D_fa_8 x).Sides :=
  TT.sJ
noncomputable def D_fa_11 (D_fa_8 : Dyn X_fa_8 R_fa) : Dyn X_fa_11 R_fa := .of (tt_fa_11 D_fa_8)
theorem ok_fa_11 (D_fa_8 : Dyn X_fa_8 R_fa) (h_8 : LabOK J_fa S_fa_8 D_fa_8) : LabOK J_fa S_fa_11 (D_fa_11 D_fa_8) :=
  lbk mxk (lbc h_8 rfl (lbc ok_fa_12 rfl lbn)) 4000 (fun x => by kernel_rfl) (sd_fa_11 D_fa_8)
noncomputable def tt_fa_10 (D_fa_8 : Dyn X_fa_8 R_fa) (x : X_fa_10) : TT Tryz.prog R_fa :=
 (.need (inb x.m_3.At x.l_0.n) <|
 (.call con_f2j ((x.l_0.get (Int.toNat x.m_3.At)), x.m_3) fun (y2 : R_f2j) =>
 (.jump S_fa_11 (D_fa_11 D_fa_8) (X_fa_11.mk x.l_0 x.q_48 y2 x.m_4 x.m_5))))
theorem sd_fa_10 (D_fa_8 : Dyn X_fa_8 R_fa) (x : X_fa_10) : (tt_fa_10 D_fa_8 x).Sides :=
  (TT.sN (TT.sC fun _ => TT.sJ))
noncomputable def D_fa_10 (D_fa_8 : Dyn X_fa_8 R_fa) : Dyn X_fa_10 R_fa := .of (tt_fa_10 D_fa_8)
theorem ok_fa_10 (D_fa_8 : Dyn X_fa_8 R_fa) (h_8 : LabOK J_fa S_fa_8 D_fa_8) : LabOK J_fa S_fa_10 (D_fa_10 D_fa_8) :=
  lbk mxk (lbc h_8 rfl (lbc ok_fa_12 rfl (lbc (ok_fa_11 D_fa_8 h_8) rfl lbn))) 4000 (fun x => by kernel_rfl) (sd_fa_10 D_fa_8)
noncomputable def tt_fa_8 (D_fa_8 : Dyn X_fa_8 R_fa) (x : X_fa_8) : TT Tryz.prog R_fa :=
 (.ite (ilt x.q_48 256)
 (.ite (ieq x.m_3.At ((x.l_0.n : Nat) : Int))
 (.jump S_fa_12 D_fa_12 (X_fa_12.mk x.l_0 x.m_3 x.m_4 x.m_5))
 (.need (inb x.m_3.At x.l_0.n) <|
 (.call con_f32 (x.l_0.get (Int.toNat x.m_3.At)).Op fun (y2 : R_f32) =>
 (.ite y2
 (.jump S_fa_12 D_fa_12 (X_fa_12.mk x.l_0 x.m_3 x.m_4 x.m_5))
 (.jump S_fa_10 (D_fa_10 D_fa_8) (X_fa_10.mk x.l_0 x.q_48 x.m_3 x.m_4 x.m_5))))))
 (.jump S_fa_12 D_fa_12 (X_fa_12.mk x.l_0 x.m_3 x.m_4 x.m_5)))
theorem sd_fa_8 (D_fa_8 : Dyn X_fa_8 R_fa) (x : X_fa_8) : (tt_fa_8 D_fa_8 x).Sides :=
  (TT.sI (TT.sI TT.sJ (TT.sN (TT.sC fun _ => (TT.sI TT.sJ TT.sJ)))) TT.sJ)
noncomputable def D_fa_8 : Dyn X_fa_8 R_fa := Dyn.loop tt_fa_8
theorem ok_fa_8 : LabOK J_fa S_fa_8 D_fa_8 :=
  loop_ok fun D_fa_8 h_8 => lbk mxk (lbc h_8 rfl (lbc ok_fa_12 rfl (lbc (ok_fa_11 D_fa_8 h_8) rfl (lbc (ok_fa_10 D_fa_8 h_8) rfl lbn)))) 4000 (fun x => by kernel_rfl) (sd_fa_8 D_fa_8)
noncomputable def tt_fa (x : X_fa) : TT Tryz.prog R_fa :=
 (.ite (!(ieq x.snd.Status 0))
 (.ret (x.snd, (TAk.mk 0 0 0 0 0 0)))
 (.ite (ieq x.snd.Phase 1)
 (.need (inb x.snd.At x.fst.n) <|
 (.need (inb (x.fst.get (Int.toNat x.snd.At)).A 8) <|
 (.ret (x.snd, (TAk.mk 10 x.snd.Ring 0 0 x.snd.Ticket (x.snd.Regs (Int.toNat (x.fst.get (Int.toNat x.snd.At)).A)))))))
 (.ite (ieq x.snd.Phase 2)
 (.need (inb x.snd.At x.fst.n) <|
 (.ret (x.snd, (TAk.mk 11 x.snd.Ring 0 (IntKind.i64.wrap (x.fst.get (Int.toNat x.snd.At)).K) x.snd.Ticket 0))))
 (.jump S_fa_8 D_fa_8 (X_fa_8.mk x.fst 0 x.snd (TTh.mk 0 0 0 0 0 (fun _i1 => (0 : Int)) (Sl.mk true 0 (fun _i1 => (0 : Int)))) (TAk.mk 0 0 0 0 0 0))))))
theorem sd_fa (x : X_fa) : (tt_fa x).Sides :=
  (TT.sI TT.sR (TT.sI (TT.sN (TT.sN TT.sR)) (TT.sI (TT.sN TT.sR) TT.sJ)))
noncomputable def D_fa : Dyn X_fa R_fa := .of tt_fa
noncomputable def con_fa : Con Tryz.prog :=
  mkCon 155 J_fa S_fa D_fa D_fa (fun _ _ h => h) 2 0 [hsl_TIn, sh_TTh_6] (by kernel_rfl) (by kernel_rfl) (by kernel_rfl) (lbk mxk (lbc ok_fa_12 rfl (lbc ok_fa_8 rfl lbn)) 4000 (fun x => by kernel_rfl) sd_fa) rfl rfl (fun _ => rfl) (by kernel_rfl) rfl (fun _ => rfl) (fun x y _ => by kernel_rfl)
abbrev X_f1m : Type := (Sl Int)
abbrev R_f1m : Type := (Sl Int)
noncomputable def J_f1m : Job Tryz.prog :=
  job Tryz.prog Tryz.f53 8 [(6, 1)] [] [] [.shut 2] [hslA_u64] [] [] R_f1m [] fun y => [eslA_u64 y]
noncomputable def S_f1m : LabS :=
  lab0 Tryz.f53 1 0 X_f1m (fun x => [esl_u64 x]) fun l => (dsl_u64 (at_ l 0))
noncomputable def tt_f1m (x : X_f1m) : TT Tryz.prog R_f1m :=
 (.ite x.nil
 (.ret (Sl.mk true 0 (fun _i1 => (0 : Int))))
 (.need (true && (room ((0 : Nat) + x.n) 8)) <|
 (.ret (Sl.mk (cond (Nat.beq x.n 0) false false) ((0 : Nat) + x.n) (fun i1 => (cond (Nat.blt i1 0) (0 : Int) (x.get (i1 - 0))))))))
theorem sd_f1m (x : X_f1m) : (tt_f1m x).Sides :=
  (TT.sI TT.sR (TT.sN TT.sR))
noncomputable def D_f1m : Dyn X_f1m R_f1m := .of tt_f1m
noncomputable def con_f1m : Con Tryz.prog :=
  mkCon 53 J_f1m S_f1m D_f1m D_f1m (fun _ _ h => h) 1 0 [hsl_u64] (by kernel_rfl) (by kernel_rfl) (by kernel_rfl) (lbk mxk lbn 4000 (fun x => by kernel_rfl) sd_f1m) rfl rfl (fun _ => rfl) (by kernel_rfl) rfl (fun _ => rfl) (fun x y _ => by kernel_rfl)
abbrev X_f2k : Type := (Sl TIn) × TTh
abbrev R_f2k : Type := TTh × TAk × Int
noncomputable def J_f2k : Job Tryz.prog :=
  job Tryz.prog Tryz.f106 26 [(18, 1), (19, 1), (20, 1), (24, 1)] [] [] [] [sh_TTh_6, .any, .any] [] [con_f1m, con_fn, con_fa] R_f2k [] fun y => [V.tup (V.cons (e_TTh_6 y.1) (V.cons (e_TAk y.2.1) (V.cons ((V.int .i64) y.2.2) (V.unit))))]
noncomputable def S_f2k : LabS :=
  lab0 Tryz.f106 2 0 X_f2k (fun x => [esl_TIn x.1, e_TTh x.2]) fun l => (dsl_TIn (at_ l 0), d_TTh (at_ l 1))
noncomputable def tt_f2k (x : X_f2k) : TT Tryz.prog R_f2k :=
 (.call con_fn x fun (y1 : R_fn) =>
 (.ite (!y1)
 (.ret ((TTh.mk 0 0 0 0 0 (fun _i2 => (0 : Int)) (Sl.mk true 0 (fun _i2 => (0 : Int)))), ((TAk.mk 0 0 0 0 0 0), 1)))
 (.call con_f1m x.snd.Seen fun (y2 : R_f1m) =>
 (.call con_fa (x.fst, (TTh.mk x.snd.At x.snd.Phase x.snd.Ring x.snd.Status x.snd.Ticket x.snd.Regs y2)) fun (y3 : R_fa) =>
 (.ret (y3.fst, (y3.snd, 0)))))))
theorem sd_f2k (x : X_f2k) : (tt_f2k x).Sides :=
  (TT.sC fun _ => (TT.sI TT.sR (TT.sC fun _ => (TT.sC fun _ => TT.sR))))
noncomputable def D_f2k : Dyn X_f2k R_f2k := .of tt_f2k
noncomputable def con_f2k : Con Tryz.prog :=
  mkCon 106 J_f2k S_f2k D_f2k D_f2k (fun _ _ h => h) 2 0 [hsl_TIn, sh_TTh] (by kernel_rfl) (by kernel_rfl) (by kernel_rfl) (lbk mxk lbn 4000 (fun x => by kernel_rfl) sd_f2k) rfl rfl (fun _ => rfl) (by kernel_rfl) rfl (fun _ => rfl) (fun x y _ => by kernel_rfl)
abbrev X_fz : Type := Int × TFa
abbrev R_fz : Type := TAk
abbrev RR_fz : Type := TAk × TFa
abbrev p_fz (y : RR_fz) : TFa := y.2
abbrev w_fz (x : X_fz) : TFa := x.2
noncomputable def J_fz : Job Tryz.prog :=
  job Tryz.prog Tryz.f61 29 [(8, 1)] [(2, [.back (.loc 20 0)])] [(1, [.opn (.par 0) [.fld 1 2] 20])] [.back (.loc 20 0)] [.any] [sh_TFa] [con_f2k] RR_fz [(0, [⟨.loc 20 0, .par 0, [.fld 1 2], none, none⟩])] fun y => [e_TAk y.1, e_TFa y.2]
noncomputable def S_fz : LabS :=
  lab0 Tryz.f61 2 1 X_fz (fun x => [(V.ptr (.par 0) []), (V.int .i64) x.1, e_TFa x.2]) fun l => (dI (at_ l 1), d_TFa (at_ l 2))
noncomputable def tt_fz (x : X_fz) : TT Tryz.prog RR_fz :=
 (.need (inb x.fst x.snd.p.Threads.n) <|
 (.need (inb x.fst x.snd.threads.n) <|
 (.need ((Nat.beq x.snd.threads.n x.snd.threads.n) && true) <|
 (.call con_f2k ((x.snd.p.Threads.get (Int.toNat x.fst)), (x.snd.threads.get ((0 : Nat) + (Int.toNat x.fst)))) fun (y1 : R_f2k) =>
 (.need ((true && true) && (Nat.beq x.snd.threads.n x.snd.threads.n)) <|
 (.ret (y1.snd.fst, x.snd)))))))
theorem sd_fz (x : X_fz) : (tt_fz x).Sides :=
  (TT.sN (TT.sN (TT.sN (TT.sC fun _ => (TT.sN TT.sR)))))
theorem roT_fz (x : X_fz) : TT.Ro p_fz (w_fz x) (tt_fz x) :=
  (TT.rN (TT.rN (TT.rN (TT.rC fun _ => (TT.rN (TT.rR rfl))))))
noncomputable def D_fz : Dyn X_fz R_fz := .ro (.of tt_fz) (fun y => (y.1)) (fun y x => (y, x.2)) fun x y h => congrArg (fun o => (y.1, o)) (roT_fz x y h)
noncomputable def con_fz : Con Tryz.prog :=
  mkConP 61 J_fz S_fz (.of tt_fz) D_fz (fun y x => (y, x.2)) (fun _ _ h => h) (fun y => e_TAk y) 2 1 [.any, .any] (by kernel_rfl) (by kernel_rfl) (by kernel_rfl) (lbk mxk lbn 4000 (fun x => by kernel_rfl) sd_fz) rfl rfl (fun _ => rfl) (by kernel_rfl) rfl (fun _ _ => rfl) (fun _ => rfl) (fun x => ⟨(nu_e_TFa : ∀ y, (e_TFa y).NoU) (x.2), trivial⟩)
abbrev X_f1e : Type := Int × TFa
abbrev R_f1e : Type := TAk × Int
abbrev RR_f1e : Type := TAk × Int × TFa
abbrev p_f1e (y : RR_f1e) : TFa := y.2.2
abbrev w_f1e (x : X_f1e) : TFa := x.2
noncomputable def J_f1e : Job Tryz.prog :=
  job Tryz.prog Tryz.f24 19 [] [] [] [] [.any, .any] [sh_TFa] [con_fz, con_fy] RR_f1e [] fun y => [V.tup (V.cons (e_TAk y.1) (V.cons ((V.int .i64) y.2.1) (V.unit))), e_TFa y.2.2]
noncomputable def S_f1e : LabS :=
  lab0 Tryz.f24 2 1 X_f1e (fun x => [(V.ptr (.par 0) []), (V.int .i64) x.1, e_TFa x.2]) fun l => (dI (at_ l 1), d_TFa (at_ l 2))
noncomputable def tt_f1e (x : X_f1e) : TT Tryz.prog RR_f1e :=
 (.call con_fy (x.fst, x.snd) fun (y1 : R_fy) =>
 (.ite (!y1)
 (.ret ((TAk.mk 0 0 0 0 0 0), (5, x.snd)))
 (.call con_fz (x.fst, x.snd) fun (y2 : R_fz) =>
 (.ret (y2, (0, x.snd))))))
theorem sd_f1e (x : X_f1e) : (tt_f1e x).Sides :=
  (TT.sC fun _ => (TT.sI TT.sR (TT.sC fun _ => TT.sR)))
theorem roT_f1e (x : X_f1e) : TT.Ro p_f1e (w_f1e x) (tt_f1e x) :=
  (TT.rC fun _ => (TT.rI (TT.rR rfl) (TT.rC fun _ => (TT.rR rfl))))
noncomputable def D_f1e : Dyn X_f1e R_f1e := .ro (.of tt_f1e) (fun y => (y.1, y.2.1)) (fun y x => (y.1, y.2, x.2)) fun x y h => congrArg (fun o => (y.1, y.2.1, o)) (roT_f1e x y h)
noncomputable def con_f1e : Con Tryz.prog :=
  mkConP 24 J_f1e S_f1e (.of tt_f1e) D_f1e (fun y x => (y.1, y.2, x.2)) (fun _ _ h => h) (fun y => V.tup (V.cons (e_TAk y.1) (V.cons ((V.int .i64) y.2) (V.unit)))) 2 1 [.any, .any] (by kernel_rfl) (by kernel_rfl) (by kernel_rfl) (lbk mxk lbn 4000 (fun x => by kernel_rfl) sd_f1e) rfl rfl (fun _ => rfl) (by kernel_rfl) rfl (fun _ _ => rfl) (fun _ => rfl) (fun x => ⟨(nu_e_TFa : ∀ y, (e_TFa y).NoU) (x.2), trivial⟩)
abbrev Dsl_str : Type := (Sl ByteArray)
def esl_str : Dsl_str → V := (eSl none 1 V.str)
def dsl_str : V → Dsl_str := (dSl dS)
def hsl_str : Sh := (.sl none 1 (V.str (dS .undef)))
abbrev X_f30 : Type := Unit
abbrev R_f30 : Type := (Sl ByteArray)
noncomputable def J_f30 : Job Tryz.prog :=
  job Tryz.prog Tryz.f182 2 [] [] [] [.shut 0] [hsl_str] [] [] R_f30 [] fun y => [esl_str y]
noncomputable def S_f30 : LabS :=
  lab0 Tryz.f182 0 0 X_f30 (fun _x => []) fun _l => ()
noncomputable def tt_f30 (_x : X_f30) : TT Tryz.prog R_f30 :=
 (.ret (Sl.mk false 15 (fun i1 => (cond (Nat.beq i1 0) (ByteArray.mk #[99, 108, 97, 105, 109]) (cond (Nat.beq i1 1) (ByteArray.mk #[112, 117, 98, 108, 105, 115, 104]) (cond (Nat.beq i1 2) (ByteArray.mk #[116, 97, 107, 101]) (cond (Nat.beq i1 3) (ByteArray.mk #[114, 101, 108, 101, 97, 115, 101]) (cond (Nat.beq i1 4) (ByteArray.mk #[110, 111]) (cond (Nat.beq i1 5) (ByteArray.mk #[115, 104, 117, 116]) (cond (Nat.beq i1 6) (ByteArray.mk #[116, 105, 109, 101]) (cond (Nat.beq i1 7) (ByteArray.mk #[99, 108, 111, 99, 107]) (cond (Nat.beq i1 8) (ByteArray.mk #[100, 114, 97, 119]) (cond (Nat.beq i1 9) (ByteArray.mk #[114, 101, 97, 100]) (cond (Nat.beq i1 10) (ByteArray.mk #[101, 110, 100]) (cond (Nat.beq i1 11) (ByteArray.mk #[115, 101, 101]) (cond (Nat.beq i1 12) (ByteArray.mk #[99, 108, 111, 115, 101]) (cond (Nat.beq i1 13) (ByteArray.mk #[104, 97, 108, 116]) (ByteArray.mk #[115, 112, 105, 110]))))))))))))))))))
theorem sd_f30 (x : X_f30) : (tt_f30 x).Sides :=
  TT.sR
noncomputable def D_f30 : Dyn X_f30 R_f30 := .of tt_f30
noncomputable def con_f30 : Con Tryz.prog :=
  mkCon 182 J_f30 S_f30 D_f30 D_f30 (fun _ _ h => h) 0 0 [] (by kernel_rfl) (by kernel_rfl) (by kernel_rfl) (lbk mxk lbn 4000 (fun x => by kernel_rfl) sd_f30) rfl rfl (fun _ => rfl) (by kernel_rfl) rfl (fun _ => rfl) (fun x y _ => by kernel_rfl)
abbrev X_f20 : Type := Int
abbrev R_f20 : Type := ByteArray
noncomputable def J_f20 : Job Tryz.prog :=
  job Tryz.prog Tryz.f151 14 [] [] [] [] [.any] [] [con_f30] R_f20 [] fun y => [V.str y]
noncomputable def S_f20 : LabS :=
  lab0 Tryz.f151 1 0 X_f20 (fun x => [(V.int .i64) x]) fun l => (dI (at_ l 0))
structure X_f20_3 where
  kind_0 : Int
noncomputable def S_f20_3 : LabS :=
  labAt Tryz.f151 3 [(0, .any)] [] [] X_f20_3 (fun x => [(V.int .i64) x.kind_0]) fun l => ⟨dI (at_ l 0)⟩
noncomputable def tt_f20_3 (x : X_f20_3) : TT Tryz.prog R_f20 :=
 (.call con_f30 PUnit.unit fun (y1 : R_f30) =>
 (.need (inb (IntKind.i64.wrap (x.kind_0 - 1)) y1.n) <|
 (.ret (y1.get (Int.toNat (IntKind.i64.wrap (x.kind_0 - 1)))))))
theorem sd_f20_3 (x : X_f20_3) : (tt_f20_3 x).Sides :=
  (TT.sC fun _ => (TT.sN TT.sR))
noncomputable def D_f20_3 : Dyn X_f20_3 R_f20 := .of tt_f20_3
theorem ok_f20_3 : LabOK J_f20 S_f20_3 D_f20_3 :=
  lbk mxk lbn 4000 (fun x => by kernel_rfl) sd_f20_3
noncomputable def tt_f20 (x : X_f20) : TT Tryz.prog R_f20 :=
 (.ite (ilt x 1)
 (.ret (ByteArray.mk #[]))
 (.ite (ilt 15 x)
 (.ret (ByteArray.mk #[]))
 (.jump S_f20_3 D_f20_3 (X_f20_3.mk x))))
theorem sd_f20 (x : X_f20) : (tt_f20 x).Sides :=
  (TT.sI TT.sR (TT.sI TT.sR TT.sJ))
noncomputable def D_f20 : Dyn X_f20 R_f20 := .of tt_f20
noncomputable def con_f20 : Con Tryz.prog :=
  mkCon 151 J_f20 S_f20 D_f20 D_f20 (fun _ _ h => h) 1 0 [.any] (by kernel_rfl) (by kernel_rfl) (by kernel_rfl) (lbk mxk (lbc ok_f20_3 rfl lbn) 4000 (fun x => by kernel_rfl) sd_f20) rfl rfl (fun _ => rfl) (by kernel_rfl) rfl (fun _ => rfl) (fun x y _ => by kernel_rfl)
abbrev X_f2d : Type := Int
abbrev R_f2d : Type := Bool
noncomputable def J_f2d : Job Tryz.prog :=
  job Tryz.prog Tryz.f184 13 [] [] [] [] [.any] [] [] R_f2d [] fun y => [V.bool y]
noncomputable def S_f2d : LabS :=
  lab0 Tryz.f184 1 0 X_f2d (fun x => [(V.int .i64) x]) fun l => (dI (at_ l 0))
noncomputable def tt_f2d (x : X_f2d) : TT Tryz.prog R_f2d :=
 (.ite (ile 1 x)
 (.ite (ile x 4)
 (.ret true)
 (.ret (ieq x 13)))
 (.ret (ieq x 13)))
theorem sd_f2d (x : X_f2d) : (tt_f2d x).Sides :=
  (TT.sI (TT.sI TT.sR TT.sR) TT.sR)
noncomputable def D_f2d : Dyn X_f2d R_f2d := .of tt_f2d
noncomputable def con_f2d : Con Tryz.prog :=
  mkCon 184 J_f2d S_f2d D_f2d D_f2d (fun _ _ h => h) 1 0 [.any] (by kernel_rfl) (by kernel_rfl) (by kernel_rfl) (lbk mxk lbn 4000 (fun x => by kernel_rfl) sd_f2d) rfl rfl (fun _ => rfl) (by kernel_rfl) rfl (fun _ => rfl) (fun x y _ => by kernel_rfl)
abbrev X_f2l : Type := Int
abbrev R_f2l : Type := Bool
noncomputable def J_f2l : Job Tryz.prog :=
  job Tryz.prog Tryz.f183 13 [] [] [] [] [.any] [] [con_f2d] R_f2l [] fun y => [V.bool y]
noncomputable def S_f2l : LabS :=
  lab0 Tryz.f183 1 0 X_f2l (fun x => [(V.int .i64) x]) fun l => (dI (at_ l 0))
noncomputable def tt_f2l (x : X_f2l) : TT Tryz.prog R_f2l :=
 (.call con_f2d x fun (y1 : R_f2d) =>
 (.ite y1
 (.ret true)
 (.ite (ile 5 x)
 (.ret (ile x 7))
 (.ret false))))
theorem sd_f2l (x : X_f2l) : (tt_f2l x).Sides :=
  (TT.sC fun _ => (TT.sI TT.sR (TT.sI TT.sR TT.sR)))
noncomputable def D_f2l : Dyn X_f2l R_f2l := .of tt_f2l
noncomputable def con_f2l : Con Tryz.prog :=
  mkCon 183 J_f2l S_f2l D_f2l D_f2l (fun _ _ h => h) 1 0 [.any] (by kernel_rfl) (by kernel_rfl) (by kernel_rfl) (lbk mxk lbn 4000 (fun x => by kernel_rfl) sd_f2l) rfl rfl (fun _ => rfl) (by kernel_rfl) rfl (fun _ => rfl) (fun x y _ => by kernel_rfl)
abbrev X_f2p : Type := Int
abbrev R_f2p : Type := Bool
noncomputable def J_f2p : Job Tryz.prog :=
  job Tryz.prog Tryz.f185 13 [] [] [] [] [.any] [] [] R_f2p [] fun y => [V.bool y]
noncomputable def S_f2p : LabS :=
  lab0 Tryz.f185 1 0 X_f2p (fun x => [(V.int .i64) x]) fun l => (dI (at_ l 0))
noncomputable def tt_f2p (x : X_f2p) : TT Tryz.prog R_f2p :=
 (.ite (ile 8 x)
 (.ite (ile x 10)
 (.ret true)
 (.ret (ieq x 12)))
 (.ret (ieq x 12)))
theorem sd_f2p (x : X_f2p) : (tt_f2p x).Sides :=
  (TT.sI (TT.sI TT.sR TT.sR) TT.sR)
noncomputable def D_f2p : Dyn X_f2p R_f2p := .of tt_f2p
noncomputable def con_f2p : Con Tryz.prog :=
  mkCon 185 J_f2p S_f2p D_f2p D_f2p (fun _ _ h => h) 1 0 [.any] (by kernel_rfl) (by kernel_rfl) (by kernel_rfl) (lbk mxk lbn 4000 (fun x => by kernel_rfl) sd_f2p) rfl rfl (fun _ => rfl) (by kernel_rfl) rfl (fun _ => rfl) (fun x y _ => by kernel_rfl)
def d_TEv (v : V) : TEv :=
  ⟨dI (fd v 0), dI (fd v 1), dI (fd v 2), dI (fd v 3), dI (fd v 4)⟩
def e_TEv (x : TEv) : V :=
  V.cons ((V.int .i64) x.Thread) (V.cons ((V.int .i64) x.Kind) (V.cons ((V.int .i64) x.Ring) (V.cons ((V.int .u64) x.Ticket) (V.cons ((V.int .u64) x.Value) (V.unit)))))
theorem nu_e_TEv (x : TEv) : (e_TEv x).NoU := ⟨trivial, trivial, trivial, trivial, trivial, trivial⟩
abbrev X_ft : Type := TEv
abbrev R_ft : Type := TEv
noncomputable def J_ft : Job Tryz.prog :=
  job Tryz.prog Tryz.f152 19 [] [] [] [] [.any] [] [con_f2l, con_f2d, con_f2p] R_ft [] fun y => [e_TEv y]
noncomputable def S_ft : LabS :=
  lab0 Tryz.f152 1 0 X_ft (fun x => [e_TEv x]) fun l => (d_TEv (at_ l 0))
structure X_ft_3 where
  m_1 : TEv
  m_2 : TEv
noncomputable def S_ft_3 : LabS :=
  labAt Tryz.f152 3 [(1, .any), (2, .any)] [] [(.loc 1 0, .any), (.loc 2 0, .any)] X_ft_3 (fun x => [(V.ptr (.loc 1 0) []), (V.ptr (.loc 2 0) []), e_TEv x.m_1, e_TEv x.m_2]) fun l => ⟨d_TEv (at_ l 2), d_TEv (at_ l 3)⟩
structure X_ft_5 where
  m_1 : TEv
  m_2 : TEv
noncomputable def S_ft_5 : LabS :=
  labAt Tryz.f152 5 [(1, .any), (2, .any)] [] [(.loc 1 0, .any), (.loc 2 0, .any)] X_ft_5 (fun x => [(V.ptr (.loc 1 0) []), (V.ptr (.loc 2 0) []), e_TEv x.m_1, e_TEv x.m_2]) fun l => ⟨d_TEv (at_ l 2), d_TEv (at_ l 3)⟩
noncomputable def tt_ft_5 (x : X_ft_5) : TT Tryz.prog R_ft :=
 (.call con_f2p x.m_1.Kind fun (y1 : R_f2p) =>
 (.ite (!y1)
 (.ret (TEv.mk x.m_1.Thread x.m_1.Kind x.m_1.Ring x.m_1.Ticket 0))
 (.ret x.m_1)))
theorem sd_ft_5 (x : X_ft_5) : (tt_ft_5 x).Sides :=
  (TT.sC fun _ => (TT.sI TT.sR TT.sR))
noncomputable def D_ft_5 : Dyn X_ft_5 R_ft := .of tt_ft_5
theorem ok_ft_5 : LabOK J_ft S_ft_5 D_ft_5 :=
  lbk mxk lbn 4000 (fun x => by kernel_rfl) sd_ft_5
noncomputable def tt_ft_3 (x : X_ft_3) : TT Tryz.prog R_ft :=
 (.call con_f2d x.m_1.Kind fun (y1 : R_f2d) =>
 (.ite (!y1)
 (.jump S_ft_5 D_ft_5 (X_ft_5.mk (TEv.mk x.m_1.Thread x.m_1.Kind x.m_1.Ring 0 x.m_1.Value) x.m_2))
 (.jump S_ft_5 D_ft_5 (X_ft_5.mk x.m_1 x.m_2))))
theorem sd_ft_3 (x : X_ft_3) : (tt_ft_3 x).Sides :=
  (TT.sC fun _ => (TT.sI TT.sJ TT.sJ))
noncomputable def D_ft_3 : Dyn X_ft_3 R_ft := .of tt_ft_3
theorem ok_ft_3 : LabOK J_ft S_ft_3 D_ft_3 :=
  lbk mxk (lbc ok_ft_5 rfl lbn) 4000 (fun x => by kernel_rfl) sd_ft_3
noncomputable def tt_ft (x : X_ft) : TT Tryz.prog R_ft :=
 (.call con_f2l x.Kind fun (y1 : R_f2l) =>
 (.ite (!y1)
 (.jump S_ft_3 D_ft_3 (X_ft_3.mk (TEv.mk x.Thread x.Kind 0 x.Ticket x.Value) (TEv.mk 0 0 0 0 0)))
 (.jump S_ft_3 D_ft_3 (X_ft_3.mk x (TEv.mk 0 0 0 0 0)))))
theorem sd_ft (x : X_ft) : (tt_ft x).Sides :=
  (TT.sC fun _ => (TT.sI TT.sJ TT.sJ))
noncomputable def D_ft : Dyn X_ft R_ft := .of tt_ft
noncomputable def con_ft : Con Tryz.prog :=
  mkCon 152 J_ft S_ft D_ft D_ft (fun _ _ h => h) 1 0 [.any] (by kernel_rfl) (by kernel_rfl) (by kernel_rfl) (lbk mxk (lbc ok_ft_5 rfl (lbc ok_ft_3 rfl lbn)) 4000 (fun x => by kernel_rfl) sd_ft) rfl rfl (fun _ => rfl) (by kernel_rfl) rfl (fun _ => rfl) (fun x y _ => by kernel_rfl)
abbrev X_f2m : Type := TEv
abbrev R_f2m : Type := Bool
noncomputable def J_f2m : Job Tryz.prog :=
  job Tryz.prog Tryz.f104 38 [(1, 3)] [] [] [] [.any] [] [con_f20, con_ft] R_f2m [] fun y => [V.bool y]
noncomputable def S_f2m : LabS :=
  lab0 Tryz.f104 1 0 X_f2m (fun x => [e_TEv x]) fun l => (d_TEv (at_ l 0))
noncomputable def tt_f2m (x : X_f2m) : TT Tryz.prog R_f2m :=
 (.call con_f20 x.Kind fun (y1 : R_f20) =>
 (.ite (!(seq y1 (ByteArray.mk #[])))
 (.call con_ft x fun (y2 : R_ft) =>
 (.ite ((ieq x.Thread y2.Thread) && ((ieq x.Kind y2.Kind) && ((ieq x.Ring y2.Ring) && ((ieq x.Ticket y2.Ticket) && ((ieq x.Value y2.Value) && true)))))
 (.ite (ile 0 x.Thread)
 (.ite (ilt x.Thread 8)
 (.ite (ile 0 x.Ring)
 (.ite (ilt x.Ring 8)
 (.ret (ilt x.Ticket 4611686018427387904))
 (.ret false))
 (.ret false))
 (.ret false))
 (.ret false))
 (.ret false)))
 (.ret false)))
theorem sd_f2m (x : X_f2m) : (tt_f2m x).Sides :=
  (TT.sC fun _ => (TT.sI (TT.sC fun _ => (TT.sI (TT.sI (TT.sI (TT.sI (TT.sI TT.sR TT.sR) TT.sR) TT.sR) TT.sR) TT.sR)) TT.sR))
noncomputable def D_f2m : Dyn X_f2m R_f2m := .of tt_f2m
noncomputable def con_f2m : Con Tryz.prog :=
  mkCon 104 J_f2m S_f2m D_f2m D_f2m (fun _ _ h => h) 1 0 [.any] (by kernel_rfl) (by kernel_rfl) (by kernel_rfl) (lbk mxk lbn 4000 (fun x => by kernel_rfl) sd_f2m) rfl rfl (fun _ => rfl) (by kernel_rfl) rfl (fun _ => rfl) (fun x y _ => by kernel_rfl)
abbrev X_f2c : Type := Int
abbrev R_f2c : Type := Int
noncomputable def J_f2c : Job Tryz.prog :=
  job Tryz.prog Tryz.f186 25 [] [] [] [] [.any] [] [] R_f2c [] fun y => [(V.int .i64) y]
noncomputable def S_f2c : LabS :=
  lab0 Tryz.f186 1 0 X_f2c (fun x => [(V.int .i64) x]) fun l => (dI (at_ l 0))
noncomputable def tt_f2c (x : X_f2c) : TT Tryz.prog R_f2c :=
 (.ite (ieq x 1)
 (.ret 1)
 (.ite (ieq x 2)
 (.ret 10)
 (.ite (ieq x 3)
 (.ret 2)
 (.ite (ieq x 4)
 (.ret 11)
 (.ite (ieq x 8)
 (.ret 4)
 (.ite (ieq x 9)
 (.ret 5)
 (.ite (ieq x 10)
 (.ret 6)
 (.ite (ieq x 11)
 (.ret 6)
 (.ite (ieq x 12)
 (.ret 7)
 (.ite (ieq x 13)
 (.ret 3)
 (.ite (ieq x 14)
 (.ret 8)
 (.ret 9))))))))))))
theorem sd_f2c (x : X_f2c) : (tt_f2c x).Sides :=
  (TT.sI TT.sR (TT.sI TT.sR (TT.sI TT.sR (TT.sI TT.sR (TT.sI TT.sR (TT.sI TT.sR (TT.sI TT.sR (TT.sI TT.sR (TT.sI TT.sR (TT.sI TT.sR (TT.sI TT.sR TT.sR)))))))))))
noncomputable def D_f2c : Dyn X_f2c R_f2c := .of tt_f2c
noncomputable def con_f2c : Con Tryz.prog :=
  mkCon 186 J_f2c S_f2c D_f2c D_f2c (fun _ _ h => h) 1 0 [.any] (by kernel_rfl) (by kernel_rfl) (by kernel_rfl) (lbk mxk lbn 4000 (fun x => by kernel_rfl) sd_f2c) rfl rfl (fun _ => rfl) (by kernel_rfl) rfl (fun _ => rfl) (fun x y _ => by kernel_rfl)
abbrev X_fg : Type := TAk × TEv
abbrev R_fg : Type := Bool
noncomputable def J_fg : Job Tryz.prog :=
  job Tryz.prog Tryz.f153 79 [(2, 3), (3, 3)] [] [] [] [.any] [] [con_f2l, con_f2c] R_fg [] fun y => [V.bool y]
noncomputable def S_fg : LabS :=
  lab0 Tryz.f153 2 0 X_fg (fun x => [e_TAk x.1, e_TEv x.2]) fun l => (d_TAk (at_ l 0), d_TEv (at_ l 1))
structure X_fg_3 where
  a_2 : TAk
  e_3 : TEv
noncomputable def S_fg_3 : LabS :=
  labAt Tryz.f153 3 [(2, .any), (3, .any)] [] [] X_fg_3 (fun x => [(eVp e_TAk) x.a_2, (eVp e_TEv) x.e_3]) fun l => ⟨(dVp d_TAk) (at_ l 0), (dVp d_TEv) (at_ l 1)⟩
structure X_fg_4 where
  a_2 : TAk
  e_3 : TEv
  waits_5 : Bool
noncomputable def S_fg_4 : LabS :=
  labAt Tryz.f153 4 [(2, .any), (3, .any), (5, .any)] [] [] X_fg_4 (fun x => [(eVp e_TAk) x.a_2, (eVp e_TEv) x.e_3, V.bool x.waits_5]) fun l => ⟨(dVp d_TAk) (at_ l 0), (dVp d_TEv) (at_ l 1), dB (at_ l 2)⟩
structure X_fg_16 where
  a_2 : TAk
  e_3 : TEv
noncomputable def S_fg_16 : LabS :=
  labAt Tryz.f153 16 [(2, .any), (3, .any)] [] [] X_fg_16 (fun x => [(eVp e_TAk) x.a_2, (eVp e_TEv) x.e_3]) fun l => ⟨(dVp d_TAk) (at_ l 0), (dVp d_TEv) (at_ l 1)⟩
noncomputable def tt_fg_16 (x : X_fg_16) : TT Tryz.prog R_fg :=
 (.call con_f2c x.e_3.Kind fun (y1 : R_f2c) =>
 (.ret (ieq x.a_2.Kind y1)))
theorem sd_fg_16 (x : X_fg_16) : (tt_fg_16 x).Sides :=
  (TT.sC fun _ => TT.sR)
noncomputable def D_fg_16 : Dyn X_fg_16 R_fg := .of tt_fg_16
theorem ok_fg_16 : LabOK J_fg S_fg_16 D_fg_16 :=
  lbk mxk lbn 4000 (fun x => by kernel_rfl) sd_fg_16
noncomputable def tt_fg_4 (x : X_fg_4) : TT Tryz.prog R_fg :=
 (.ite (ieq x.e_3.Kind 5)
 (.ite x.waits_5
 (.ret (ieq x.a_2.Mode 0))
 (.ret false))
 (.ite (ieq x.e_3.Kind 6)
 (.ret x.waits_5)
 (.ite (ieq x.e_3.Kind 7)
 (.ite x.waits_5
 (.ret (ieq x.a_2.Mode 2))
 (.ret false))
 (.ite (ieq x.e_3.Kind 2)
 (.call con_f2c x.e_3.Kind fun (y1 : R_f2c) =>
 (.ite (ieq x.a_2.Kind y1)
 (.ret (ieq x.a_2.Ticket x.e_3.Ticket))
 (.ret false)))
 (.ite (ieq x.e_3.Kind 4)
 (.call con_f2c x.e_3.Kind fun (y1 : R_f2c) =>
 (.ite (ieq x.a_2.Kind y1)
 (.ret (ieq x.a_2.Ticket x.e_3.Ticket))
 (.ret false)))
 (.ite (ieq x.e_3.Kind 12)
 (.ite (ieq x.a_2.Kind 7)
 (.ret (ieq x.a_2.Value x.e_3.Value))
 (.ret false))
 (.jump S_fg_16 D_fg_16 (X_fg_16.mk x.a_2 x.e_3))))))))
theorem sd_fg_4 (x : X_fg_4) : (tt_fg_4 x).Sides :=
  (TT.sI (TT.sI TT.sR TT.sR) (TT.sI TT.sR (TT.sI (TT.sI TT.sR TT.sR) (TT.sI (TT.sC fun _ => (TT.sI TT.sR TT.sR)) (TT.sI (TT.sC fun _ => (TT.sI TT.sR TT.sR)) (TT.sI (TT.sI TT.sR TT.sR) TT.sJ))))))
noncomputable def D_fg_4 : Dyn X_fg_4 R_fg := .of tt_fg_4
theorem ok_fg_4 : LabOK J_fg S_fg_4 D_fg_4 :=
  lbk mxk (lbc ok_fg_16 rfl lbn) 4000 (fun x => by kernel_rfl) sd_fg_4
noncomputable def tt_fg_3 (x : X_fg_3) : TT Tryz.prog R_fg :=
 (.ite (ieq x.a_2.Kind 1)
 (.jump S_fg_4 D_fg_4 (X_fg_4.mk x.a_2 x.e_3 true))
 (.jump S_fg_4 D_fg_4 (X_fg_4.mk x.a_2 x.e_3 (ieq x.a_2.Kind 2))))
theorem sd_fg_3 (x : X_fg_3) : (tt_fg_3 x).Sides :=
  (TT.sI TT.sJ TT.sJ)
noncomputable def D_fg_3 : Dyn X_fg_3 R_fg := .of tt_fg_3
theorem ok_fg_3 : LabOK J_fg S_fg_3 D_fg_3 :=
  lbk mxk (lbc ok_fg_16 rfl (lbc ok_fg_4 rfl lbn)) 4000 (fun x => by kernel_rfl) sd_fg_3
noncomputable def tt_fg (x : X_fg) : TT Tryz.prog R_fg :=
 (.call con_f2l x.snd.Kind fun (y1 : R_f2l) =>
 (.ite y1
 (.ite (!(ieq x.fst.Ring x.snd.Ring))
 (.ret false)
 (.jump S_fg_3 D_fg_3 (X_fg_3.mk x.fst x.snd)))
 (.jump S_fg_3 D_fg_3 (X_fg_3.mk x.fst x.snd))))
theorem sd_fg (x : X_fg) : (tt_fg x).Sides :=
  (TT.sC fun _ => (TT.sI (TT.sI TT.sR TT.sJ) TT.sJ))
noncomputable def D_fg : Dyn X_fg R_fg := .of tt_fg
noncomputable def con_fg : Con Tryz.prog :=
  mkCon 153 J_fg S_fg D_fg D_fg (fun _ _ h => h) 2 0 [.any, .any] (by kernel_rfl) (by kernel_rfl) (by kernel_rfl) (lbk mxk (lbc ok_fg_16 rfl (lbc ok_fg_4 rfl (lbc ok_fg_3 rfl lbn))) 4000 (fun x => by kernel_rfl) sd_fg) rfl rfl (fun _ => rfl) (by kernel_rfl) rfl (fun _ => rfl) (fun x y _ => by kernel_rfl)
abbrev X_fl : Type := TIn × TEv × Int × TTh
abbrev R_fl : Type := TTh
noncomputable def J_fl : Job Tryz.prog :=
  job Tryz.prog Tryz.f154 121 [(4, 3), (6, 3), (98, 1)] [] [] [] [] [sh_TTh_6] [] R_fl [] fun y => [V.tup (V.unit), e_TTh_6 y]
noncomputable def S_fl : LabS :=
  lab0 Tryz.f154 4 1 X_fl (fun x => [e_TIn x.1, (V.ptr (.par 0) []), e_TEv x.2.1, (V.int .u64) x.2.2.1, e_TTh_6 x.2.2.2]) fun l => (d_TIn (at_ l 0), d_TEv (at_ l 2), dI (at_ l 3), d_TTh (at_ l 4))
structure X_fl_23 where
  o_0 : TTh
noncomputable def S_fl_23 : LabS :=
  labAt Tryz.f154 23 [(1, .any)] [sh_TTh_6] [] X_fl_23 (fun x => [(V.ptr (.par 0) []), e_TTh_6 x.o_0]) fun l => ⟨d_TTh (at_ l 1)⟩
noncomputable def tt_fl_23 (x : X_fl_23) : TT Tryz.prog R_fl :=
 (.ret (TTh.mk (IntKind.i64.wrap (x.o_0.At + 1)) 0 0 x.o_0.Status 0 x.o_0.Regs x.o_0.Seen))
theorem sd_fl_23 (x : X_fl_23) : (tt_fl_23 x).Sides :=
  TT.sR
noncomputable def D_fl_23 : Dyn X_fl_23 R_fl := .of tt_fl_23
theorem ok_fl_23 : LabOK J_fl S_fl_23 D_fl_23 :=
  lbk mxk lbn 4000 (fun x => by kernel_rfl) sd_fl_23
noncomputable def tt_fl (x : X_fl) : TT Tryz.prog R_fl :=
 (.ite (ieq x.snd.fst.Kind 2)
 (.need (inb x.fst.B 8) <|
 (.jump S_fl_23 D_fl_23 (X_fl_23.mk (TTh.mk x.snd.snd.snd.At x.snd.snd.snd.Phase x.snd.snd.snd.Ring x.snd.snd.snd.Status x.snd.snd.snd.Ticket (fun i1 => (cond (Nat.beq i1 (Int.toNat x.fst.B)) (0 : Int) (x.snd.snd.snd.Regs i1))) x.snd.snd.snd.Seen))))
 (.ite (ieq x.snd.fst.Kind 4)
 (.need (inb x.fst.A 8) <|
 (.need (inb x.fst.B 8) <|
 (.jump S_fl_23 D_fl_23 (X_fl_23.mk (TTh.mk x.snd.snd.snd.At x.snd.snd.snd.Phase x.snd.snd.snd.Ring x.snd.snd.snd.Status x.snd.snd.snd.Ticket (fun i1 => (cond (Nat.beq i1 (Int.toNat x.fst.B)) (0 : Int) (cond (Nat.beq i1 (Int.toNat x.fst.A)) x.snd.snd.fst (x.snd.snd.snd.Regs i1)))) x.snd.snd.snd.Seen)))))
 (.ite (ieq x.snd.fst.Kind 5)
 (.need (inb x.fst.B 8) <|
 (.jump S_fl_23 D_fl_23 (X_fl_23.mk (TTh.mk x.snd.snd.snd.At x.snd.snd.snd.Phase x.snd.snd.snd.Ring x.snd.snd.snd.Status x.snd.snd.snd.Ticket (fun i1 => (cond (Nat.beq i1 (Int.toNat x.fst.B)) (1 : Int) (x.snd.snd.snd.Regs i1))) x.snd.snd.snd.Seen))))
 (.ite (ieq x.snd.fst.Kind 6)
 (.need (inb x.fst.B 8) <|
 (.jump S_fl_23 D_fl_23 (X_fl_23.mk (TTh.mk x.snd.snd.snd.At x.snd.snd.snd.Phase x.snd.snd.snd.Ring x.snd.snd.snd.Status x.snd.snd.snd.Ticket (fun i1 => (cond (Nat.beq i1 (Int.toNat x.fst.B)) (2 : Int) (x.snd.snd.snd.Regs i1))) x.snd.snd.snd.Seen))))
 (.ite (ieq x.snd.fst.Kind 7)
 (.need (inb x.fst.B 8) <|
 (.jump S_fl_23 D_fl_23 (X_fl_23.mk (TTh.mk x.snd.snd.snd.At x.snd.snd.snd.Phase x.snd.snd.snd.Ring x.snd.snd.snd.Status x.snd.snd.snd.Ticket (fun i1 => (cond (Nat.beq i1 (Int.toNat x.fst.B)) (3 : Int) (x.snd.snd.snd.Regs i1))) x.snd.snd.snd.Seen))))
 (.ite (ieq x.snd.fst.Kind 8)
 (.need (inb x.fst.A 8) <|
 (.jump S_fl_23 D_fl_23 (X_fl_23.mk (TTh.mk x.snd.snd.snd.At x.snd.snd.snd.Phase x.snd.snd.snd.Ring x.snd.snd.snd.Status x.snd.snd.snd.Ticket (fun i1 => (cond (Nat.beq i1 (Int.toNat x.fst.A)) x.snd.fst.Value (x.snd.snd.snd.Regs i1))) x.snd.snd.snd.Seen))))
 (.ite (ieq x.snd.fst.Kind 9)
 (.need (inb x.fst.A 8) <|
 (.jump S_fl_23 D_fl_23 (X_fl_23.mk (TTh.mk x.snd.snd.snd.At x.snd.snd.snd.Phase x.snd.snd.snd.Ring x.snd.snd.snd.Status x.snd.snd.snd.Ticket (fun i1 => (cond (Nat.beq i1 (Int.toNat x.fst.A)) x.snd.fst.Value (x.snd.snd.snd.Regs i1))) x.snd.snd.snd.Seen))))
 (.ite (ieq x.snd.fst.Kind 10)
 (.need (inb x.fst.A 8) <|
 (.need (inb x.fst.B 8) <|
 (.jump S_fl_23 D_fl_23 (X_fl_23.mk (TTh.mk x.snd.snd.snd.At x.snd.snd.snd.Phase x.snd.snd.snd.Ring x.snd.snd.snd.Status x.snd.snd.snd.Ticket (fun i1 => (cond (Nat.beq i1 (Int.toNat x.fst.B)) (0 : Int) (cond (Nat.beq i1 (Int.toNat x.fst.A)) x.snd.fst.Value (x.snd.snd.snd.Regs i1)))) x.snd.snd.snd.Seen)))))
 (.ite (ieq x.snd.fst.Kind 11)
 (.need (inb x.fst.B 8) <|
 (.jump S_fl_23 D_fl_23 (X_fl_23.mk (TTh.mk x.snd.snd.snd.At x.snd.snd.snd.Phase x.snd.snd.snd.Ring x.snd.snd.snd.Status x.snd.snd.snd.Ticket (fun i1 => (cond (Nat.beq i1 (Int.toNat x.fst.B)) (1 : Int) (x.snd.snd.snd.Regs i1))) x.snd.snd.snd.Seen))))
 (.ite (ieq x.snd.fst.Kind 12)
 (.need (true && (room (x.snd.snd.snd.Seen.n + 1) 8)) <|
 (.jump S_fl_23 D_fl_23 (X_fl_23.mk (TTh.mk x.snd.snd.snd.At x.snd.snd.snd.Phase x.snd.snd.snd.Ring x.snd.snd.snd.Status x.snd.snd.snd.Ticket x.snd.snd.snd.Regs (Sl.mk (cond (Nat.beq 1 0) x.snd.snd.snd.Seen.nil false) (x.snd.snd.snd.Seen.n + 1) (fun i1 => (cond (Nat.blt i1 x.snd.snd.snd.Seen.n) (x.snd.snd.snd.Seen.get i1) x.snd.fst.Value)))))))
 (.jump S_fl_23 D_fl_23 (X_fl_23.mk x.snd.snd.snd))))))))))))
theorem sd_fl (x : X_fl) : (tt_fl x).Sides :=
  (TT.sI (TT.sN TT.sJ) (TT.sI (TT.sN (TT.sN TT.sJ)) (TT.sI (TT.sN TT.sJ) (TT.sI (TT.sN TT.sJ) (TT.sI (TT.sN TT.sJ) (TT.sI (TT.sN TT.sJ) (TT.sI (TT.sN TT.sJ) (TT.sI (TT.sN (TT.sN TT.sJ)) (TT.sI (TT.sN TT.sJ) (TT.sI (TT.sN TT.sJ) TT.sJ))))))))))
noncomputable def D_fl : Dyn X_fl R_fl := .of tt_fl
noncomputable def con_fl : Con Tryz.prog :=
  mkCon 154 J_fl S_fl D_fl D_fl (fun _ _ h => h) 4 1 [.any, .any, .any, .any] (by kernel_rfl) (by kernel_rfl) (by kernel_rfl) (lbk mxk (lbc ok_fl_23 rfl lbn) 4000 (fun x => by kernel_rfl) sd_fl) rfl rfl (fun _ => rfl) (by kernel_rfl) rfl (fun _ => rfl) (fun x y _ => by kernel_rfl)
abbrev X_f1z : Type := (Sl TIn) × TTh × TEv × Int
abbrev R_f1z : Type := TTh × Int
noncomputable def J_f1z : Job Tryz.prog :=
  job Tryz.prog Tryz.f105 75 [(6, 3), (12, 1), (42, 1)] [] [] [] [sh_TTh, .any] [] [con_f2m, con_f2k, con_fl, con_fg] R_f1z [] fun y => [V.tup (V.cons (e_TTh y.1) (V.cons ((V.int .i64) y.2) (V.unit)))]
noncomputable def S_f1z : LabS :=
  lab0 Tryz.f105 4 0 X_f1z (fun x => [esl_TIn x.1, e_TTh x.2.1, e_TEv x.2.2.1, (V.int .u64) x.2.2.2]) fun l => (dsl_TIn (at_ l 0), d_TTh (at_ l 1), d_TEv (at_ l 2), dI (at_ l 3))
structure X_f1z_8 where
  l_0 : (Sl TIn)
  v_3 : Int
  e_6 : TEv
  m_5 : TTh
  m_8 : TTh
noncomputable def S_f1z_8 : LabS :=
  labAt Tryz.f105 8 [(0, hsl_TIn), (3, .any), (5, .any), (6, .any), (8, .any)] [] [(.loc 5 0, sh_TTh_6), (.loc 8 0, sh_TTh_6)] X_f1z_8 (fun x => [esl_TIn x.l_0, (V.int .u64) x.v_3, (V.ptr (.loc 5 0) []), (eVp e_TEv) x.e_6, (V.ptr (.loc 8 0) []), e_TTh_6 x.m_5, e_TTh_6 x.m_8]) fun l => ⟨dsl_TIn (at_ l 0), dI (at_ l 1), (dVp d_TEv) (at_ l 3), d_TTh (at_ l 5), d_TTh (at_ l 6)⟩
noncomputable def tt_f1z_8 (x : X_f1z_8) : TT Tryz.prog R_f1z :=
 (.ite (ieq x.e_6.Kind 1)
 (.ret ((TTh.mk x.m_5.At 1 x.e_6.Ring x.m_5.Status x.e_6.Ticket x.m_5.Regs x.m_5.Seen), 0))
 (.ite (ieq x.e_6.Kind 3)
 (.ret ((TTh.mk x.m_5.At 2 x.e_6.Ring x.m_5.Status x.e_6.Ticket x.m_5.Regs x.m_5.Seen), 0))
 (.ite (ieq x.e_6.Kind 14)
 (.ret ((TTh.mk x.m_5.At x.m_5.Phase x.m_5.Ring 1 x.m_5.Ticket x.m_5.Regs x.m_5.Seen), 0))
 (.ite (ieq x.e_6.Kind 15)
 (.ret ((TTh.mk x.m_5.At x.m_5.Phase x.m_5.Ring 2 x.m_5.Ticket x.m_5.Regs x.m_5.Seen), 0))
 (.need (inb x.m_5.At x.l_0.n) <|
 (.call con_fl ((x.l_0.get (Int.toNat x.m_5.At)), (x.e_6, (x.v_3, x.m_5))) fun (y1 : R_fl) =>
 (.ret (y1, 0))))))))
theorem sd_f1z_8 (x : X_f1z_8) : (tt_f1z_8 x).Sides :=
  (TT.sI TT.sR (TT.sI TT.sR (TT.sI TT.sR (TT.sI TT.sR (TT.sN (TT.sC fun _ => TT.sR))))))
noncomputable def D_f1z_8 : Dyn X_f1z_8 R_f1z := .of tt_f1z_8
theorem ok_f1z_8 : LabOK J_f1z S_f1z_8 D_f1z_8 :=
  lbk mxk lbn 4000 (fun x => by kernel_rfl) sd_f1z_8
noncomputable def tt_f1z (x : X_f1z) : TT Tryz.prog R_f1z :=
 (.call con_f2k (x.fst, x.snd.fst) fun (y1 : R_f2k) =>
 (.ite (!(ieq y1.snd.snd 0))
 (.ret ((TTh.mk 0 0 0 0 0 (fun _i2 => (0 : Int)) (Sl.mk true 0 (fun _i2 => (0 : Int)))), y1.snd.snd))
 (.call con_f2m x.snd.snd.fst fun (y2 : R_f2m) =>
 (.ite (!y2)
 (.ret ((TTh.mk 0 0 0 0 0 (fun _i3 => (0 : Int)) (Sl.mk true 0 (fun _i3 => (0 : Int)))), 3))
 (.ite (ieq y1.snd.fst.Kind 0)
 (.ret ((TTh.mk 0 0 0 0 0 (fun _i3 => (0 : Int)) (Sl.mk true 0 (fun _i3 => (0 : Int)))), 11))
 (.call con_fg (y1.snd.fst, x.snd.snd.fst) fun (y3 : R_fg) =>
 (.ite (!y3)
 (.ret ((TTh.mk 0 0 0 0 0 (fun _i4 => (0 : Int)) (Sl.mk true 0 (fun _i4 => (0 : Int)))), 11))
 (.jump S_f1z_8 D_f1z_8 (X_f1z_8.mk x.fst x.snd.snd.snd x.snd.snd.fst y1.fst (TTh.mk 0 0 0 0 0 (fun _i4 => (0 : Int)) (Sl.mk true 0 (fun _i4 => (0 : Int)))))))))))))
theorem sd_f1z (x : X_f1z) : (tt_f1z x).Sides :=
  (TT.sC fun _ => (TT.sI TT.sR (TT.sC fun _ => (TT.sI TT.sR (TT.sI TT.sR (TT.sC fun _ => (TT.sI TT.sR TT.sJ)))))))
noncomputable def D_f1z : Dyn X_f1z R_f1z := .of tt_f1z
noncomputable def con_f1z : Con Tryz.prog :=
  mkCon 105 J_f1z S_f1z D_f1z D_f1z (fun _ _ h => h) 4 0 [hsl_TIn, sh_TTh, .any, .any] (by kernel_rfl) (by kernel_rfl) (by kernel_rfl) (lbk mxk (lbc ok_f1z_8 rfl lbn) 4000 (fun x => by kernel_rfl) sd_f1z) rfl rfl (fun _ => rfl) (by kernel_rfl) rfl (fun _ => rfl) (fun x y _ => by kernel_rfl)
abbrev X_fu : Type := TEv × TFa
abbrev R_fu : Type := Int
abbrev RR_fu : Type := Int × TFa
abbrev p_fu (y : RR_fu) : TFa := y.2
abbrev w_fu (x : X_fu) : TFa := x.2
noncomputable def J_fu : Job Tryz.prog :=
  job Tryz.prog Tryz.f60 43 [(3, 3), (20, 1)] [(8, [.back (.loc 33 0)])] [(7, [.opn (.par 0) [.fld 1 2] 33])] [.back (.loc 33 0)] [.any] [sh_TFa] [con_f2m, con_fy, con_f1z] RR_fu [(0, [⟨.loc 33 0, .par 0, [.fld 1 2], none, none⟩])] fun y => [(V.int .i64) y.1, e_TFa y.2]
noncomputable def S_fu : LabS :=
  lab0 Tryz.f60 2 1 X_fu (fun x => [(V.ptr (.par 0) []), e_TEv x.1, e_TFa x.2]) fun l => (d_TEv (at_ l 1), d_TFa (at_ l 2))
noncomputable def tt_fu (x : X_fu) : TT Tryz.prog RR_fu :=
 (.call con_f2m x.fst fun (y1 : R_f2m) =>
 (.ite (!y1)
 (.ret (3, x.snd))
 (.call con_fy (x.fst.Thread, x.snd) fun (y2 : R_fy) =>
 (.ite (!y2)
 (.ret (5, x.snd))
 (.need (inb x.fst.Thread x.snd.p.Threads.n) <|
 (.need (inb x.fst.Thread x.snd.threads.n) <|
 (.need ((Nat.beq x.snd.threads.n x.snd.threads.n) && true) <|
 (.call con_f1z ((x.snd.p.Threads.get (Int.toNat x.fst.Thread)), ((x.snd.threads.get ((0 : Nat) + (Int.toNat x.fst.Thread))), (x.fst, 0))) fun (y3 : R_f1z) =>
 (.need ((true && true) && (Nat.beq x.snd.threads.n x.snd.threads.n)) <|
 (.ret (y3.snd, x.snd)))))))))))
theorem sd_fu (x : X_fu) : (tt_fu x).Sides :=
  (TT.sC fun _ => (TT.sI TT.sR (TT.sC fun _ => (TT.sI TT.sR (TT.sN (TT.sN (TT.sN (TT.sC fun _ => (TT.sN TT.sR)))))))))
theorem roT_fu (x : X_fu) : TT.Ro p_fu (w_fu x) (tt_fu x) :=
  (TT.rC fun _ => (TT.rI (TT.rR rfl) (TT.rC fun _ => (TT.rI (TT.rR rfl) (TT.rN (TT.rN (TT.rN (TT.rC fun _ => (TT.rN (TT.rR rfl))))))))))
noncomputable def D_fu : Dyn X_fu R_fu := .ro (.of tt_fu) (fun y => (y.1)) (fun y x => (y, x.2)) fun x y h => congrArg (fun o => (y.1, o)) (roT_fu x y h)
noncomputable def con_fu : Con Tryz.prog :=
  mkConP 60 J_fu S_fu (.of tt_fu) D_fu (fun y x => (y, x.2)) (fun _ _ h => h) (fun y => (V.int .i64) y) 2 1 [.any, .any] (by kernel_rfl) (by kernel_rfl) (by kernel_rfl) (lbk mxk lbn 4000 (fun x => by kernel_rfl) sd_fu) rfl rfl (fun _ => rfl) (by kernel_rfl) rfl (fun _ _ => rfl) (fun _ => rfl) (fun x => ⟨(nu_e_TFa : ∀ y, (e_TFa y).NoU) (x.2), trivial⟩)
abbrev X_f14 : Type := TRr
abbrev R_f14 : Type := Bool
abbrev RR_f14 : Type := Bool × TRr
abbrev p_f14 (y : RR_f14) : TRr := y.2
abbrev w_f14 (x : X_f14) : TRr := x
noncomputable def J_f14 : Job Tryz.prog :=
  job Tryz.prog Tryz.f63 11 [] [] [] [] [.any] [sh_TRr] [] RR_f14 [] fun y => [V.bool y.1, e_TRr y.2]
noncomputable def S_f14 : LabS :=
  lab0 Tryz.f63 1 1 X_f14 (fun x => [(V.ptr (.par 0) []), e_TRr x]) fun l => (d_TRr (at_ l 1))
noncomputable def tt_f14 (x : X_f14) : TT Tryz.prog RR_f14 :=
 (.ret (x.closed, x))
theorem sd_f14 (x : X_f14) : (tt_f14 x).Sides :=
  TT.sR
theorem roT_f14 (x : X_f14) : TT.Ro p_f14 (w_f14 x) (tt_f14 x) :=
  (TT.rR rfl)
noncomputable def D_f14 : Dyn X_f14 R_f14 := .ro (.of tt_f14) (fun y => (y.1)) (fun y x => (y, x)) fun x y h => congrArg (fun o => (y.1, o)) (roT_f14 x y h)
noncomputable def con_f14 : Con Tryz.prog :=
  mkConP 63 J_f14 S_f14 (.of tt_f14) D_f14 (fun y x => (y, x)) (fun _ _ h => h) (fun y => V.bool y) 1 1 [.any] (by kernel_rfl) (by kernel_rfl) (by kernel_rfl) (lbk mxk lbn 4000 (fun x => by kernel_rfl) sd_f14) rfl rfl (fun _ => rfl) (by kernel_rfl) rfl (fun _ _ => rfl) (fun _ => rfl) (fun x => ⟨(nu_e_TRr : ∀ y, (e_TRr y).NoU) (x), trivial⟩)
abbrev X_f7 : Type := (Ar Int)
abbrev R_f7 : Type := Int
abbrev RR_f7 : Type := Int × (Ar Int)
abbrev p_f7 (y : RR_f7) : (Ar Int) := y.2
abbrev w_f7 (x : X_f7) : (Ar Int) := x
noncomputable def J_f7 : Job Tryz.prog :=
  job Tryz.prog Tryz.f170 25 [] [] [] [] [.any] [.any] [] RR_f7 [] fun y => [(V.int .u64) y.1, (eAr 1 (V.int .u64)) y.2]
noncomputable def S_f7 : LabS :=
  lab0 Tryz.f170 1 1 X_f7 (fun x => [(V.own (.par 0) [] 1 x.n 0 x.n), (eAr 1 (V.int .u64)) x]) fun l => ((dAr dI) (at_ l 1))
structure X_f7_3 where
  o_0 : (Ar Int)
noncomputable def S_f7_3 : LabS :=
  labAt Tryz.f170 3 [(0, .any)] [.any] [] X_f7_3 (fun x => [(V.own (.par 0) [] 1 x.o_0.n 0 x.o_0.n), (eAr 1 (V.int .u64)) x.o_0]) fun l => ⟨(dAr dI) (at_ l 1)⟩
structure X_f7_5 where
  m_3 : Int
  i_4 : Int
  o_0 : (Ar Int)
noncomputable def S_f7_5 : LabS :=
  labAt Tryz.f170 5 [(0, .any), (3, .any), (4, .any)] [.any] [] X_f7_5 (fun x => [(V.own (.par 0) [] 1 x.o_0.n 0 x.o_0.n), (V.int .u64) x.m_3, (V.int .i64) x.i_4, (eAr 1 (V.int .u64)) x.o_0]) fun l => ⟨dI (at_ l 1), dI (at_ l 2), (dAr dI) (at_ l 3)⟩
abbrev w_f7_3 (x : X_f7_3) : (Ar Int) := (x.o_0)
abbrev w_f7_5 (x : X_f7_5) : (Ar Int) := (x.o_0)
noncomputable def tt_f7_5 (D_f7_5 : Dyn X_f7_5 RR_f7) (x : X_f7_5) : TT Tryz.prog RR_f7 :=
 (.ite (ilt x.i_4 ((x.o_0.n : Nat) : Int))
 (.need (inb x.i_4 x.o_0.n) <|
 (.need ((Nat.beq x.o_0.n x.o_0.n) && true) <|
 (.jump S_f7_5 D_f7_5 (X_f7_5.mk (imin x.m_3 (x.o_0.get ((0 : Nat) + (Int.toNat x.i_4)))) (IntKind.i64.wrap (x.i_4 + 1)) x.o_0))))
 (.ret (x.m_3, x.o_0)))
theorem sd_f7_5 (D_f7_5 : Dyn X_f7_5 RR_f7) (x : X_f7_5) : (tt_f7_5 D_f7_5 x).Sides :=
  (TT.sI (TT.sN (TT.sN TT.sJ)) TT.sR)
theorem roT_f7_5 (D_f7_5 : Dyn X_f7_5 RR_f7) (r_slices_Min_uint64_o0_5 : ∀ x y, D_f7_5.rel x y → p_f7 y = w_f7_5 x) (x : X_f7_5) : TT.Ro p_f7 (w_f7_5 x) (tt_f7_5 D_f7_5 x) :=
  (TT.rI (TT.rN (TT.rN (TT.rJ (r_slices_Min_uint64_o0_5 _)))) (TT.rR rfl))
noncomputable def D_f7_5 : Dyn X_f7_5 RR_f7 := Dyn.loop tt_f7_5
theorem ok_f7_5 : LabOK J_f7 S_f7_5 D_f7_5 :=
  loop_ok fun D_f7_5 h_5 => lbk mxk (lbc h_5 rfl lbn) 4000 (fun x => by kernel_rfl) (sd_f7_5 D_f7_5)
theorem ro_f7_5 : ∀ x y, D_f7_5.rel x y → p_f7 y = w_f7_5 x :=
  loop_ro fun D_f7_5 r_slices_Min_uint64_o0_5 => roT_f7_5 D_f7_5 r_slices_Min_uint64_o0_5
noncomputable def tt_f7_3 (x : X_f7_3) : TT Tryz.prog RR_f7 :=
 (.need (inb 0 x.o_0.n) <|
 (.need ((Nat.beq x.o_0.n x.o_0.n) && true) <|
 (.jump S_f7_5 D_f7_5 (X_f7_5.mk (x.o_0.get ((0 : Nat) + (Int.toNat 0))) 1 x.o_0))))
theorem sd_f7_3 (x : X_f7_3) : (tt_f7_3 x).Sides :=
  (TT.sN (TT.sN TT.sJ))
theorem roT_f7_3 (x : X_f7_3) : TT.Ro p_f7 (w_f7_3 x) (tt_f7_3 x) :=
  (TT.rN (TT.rN (TT.rJ (ro_f7_5 _))))
noncomputable def D_f7_3 : Dyn X_f7_3 RR_f7 := .of tt_f7_3
theorem ok_f7_3 : LabOK J_f7 S_f7_3 D_f7_3 :=
  lbk mxk (lbc ok_f7_5 rfl lbn) 4000 (fun x => by kernel_rfl) sd_f7_3
theorem ro_f7_3 : ∀ x y, D_f7_3.rel x y → p_f7 y = w_f7_3 x :=
  roT_f7_3 
noncomputable def tt_f7 (x : X_f7) : TT Tryz.prog RR_f7 :=
 (.ite (ilt ((x.n : Nat) : Int) 1)
 .fail
 (.jump S_f7_3 D_f7_3 (X_f7_3.mk x)))
theorem sd_f7 (x : X_f7) : (tt_f7 x).Sides :=
  (TT.sI TT.s_fail TT.sJ)
theorem roT_f7 (x : X_f7) : TT.Ro p_f7 (w_f7 x) (tt_f7 x) :=
  (TT.rI TT.ro_fail (TT.rJ (ro_f7_3 _)))
noncomputable def D_f7 : Dyn X_f7 R_f7 := .ro (.of tt_f7) (fun y => (y.1)) (fun y x => (y, x)) fun x y h => congrArg (fun o => (y.1, o)) (roT_f7 x y h)
noncomputable def con_f7 : Con Tryz.prog :=
  mkConP 170 J_f7 S_f7 (.of tt_f7) D_f7 (fun y x => (y, x)) (fun _ _ h => h) (fun y => (V.int .u64) y) 1 1 [.any] (by kernel_rfl) (by kernel_rfl) (by kernel_rfl) (lbk mxk (lbc ok_f7_5 rfl (lbc ok_f7_3 rfl lbn)) 4000 (fun x => by kernel_rfl) sd_f7) rfl rfl (fun _ => rfl) (by kernel_rfl) rfl (fun _ _ => rfl) (fun _ => rfl) (fun x => ⟨(fun _ _ => trivial : ∀ y, ((eAr 1 (V.int .u64)) y).NoU) (x), trivial⟩)
abbrev X_f17 : Type := TRc
abbrev R_f17 : Type := Int
abbrev RR_f17 : Type := Int × TRc
abbrev p_f17 (y : RR_f17) : TRc := y.2
abbrev w_f17 (x : X_f17) : TRc := x
noncomputable def J_f17 : Job Tryz.prog :=
  job Tryz.prog Tryz.f129 8 [] [] [] [.back (.loc 6 0)] [.any] [sh_TRc] [con_f7] RR_f17 [] fun y => [(V.int .u64) y.1, e_TRc y.2]
noncomputable def S_f17 : LabS :=
  lab0 Tryz.f129 1 1 X_f17 (fun x => [(V.ptr (.par 0) []), e_TRc x]) fun l => (d_TRc (at_ l 1))
noncomputable def tt_f17 (x : X_f17) : TT Tryz.prog RR_f17 :=
 (.call con_f7 (Ar.mk x.heads.n x.heads.get) fun (y1 : R_f7) =>
 (.need ((true && true) && (Nat.beq x.heads.n x.heads.n)) <|
 (.ret (y1, x))))
theorem sd_f17 (x : X_f17) : (tt_f17 x).Sides :=
  (TT.sC fun _ => (TT.sN TT.sR))
theorem roT_f17 (x : X_f17) : TT.Ro p_f17 (w_f17 x) (tt_f17 x) :=
  (TT.rC fun _ => (TT.rN (TT.rR rfl)))
noncomputable def D_f17 : Dyn X_f17 R_f17 := .ro (.of tt_f17) (fun y => (y.1)) (fun y x => (y, x)) fun x y h => congrArg (fun o => (y.1, o)) (roT_f17 x y h)
noncomputable def con_f17 : Con Tryz.prog :=
  mkConP 129 J_f17 S_f17 (.of tt_f17) D_f17 (fun y x => (y, x)) (fun _ _ h => h) (fun y => (V.int .u64) y) 1 1 [.any] (by kernel_rfl) (by kernel_rfl) (by kernel_rfl) (lbk mxk lbn 4000 (fun x => by kernel_rfl) sd_f17) rfl rfl (fun _ => rfl) (by kernel_rfl) rfl (fun _ _ => rfl) (fun _ => rfl) (fun x => ⟨(nu_e_TRc : ∀ y, (e_TRc y).NoU) (x), trivial⟩)
abbrev X_f19 : Type := TRr
abbrev R_f19 : Type := Bool
abbrev RR_f19 : Type := Bool × TRr
abbrev p_f19 (y : RR_f19) : TRr := y.2
abbrev w_f19 (x : X_f19) : TRr := x
noncomputable def J_f19 : Job Tryz.prog :=
  job Tryz.prog Tryz.f76 22 [] [] [] [] [.any] [sh_TRr] [con_f17] RR_f19 [] fun y => [V.bool y.1, e_TRr y.2]
noncomputable def S_f19 : LabS :=
  lab0 Tryz.f76 1 1 X_f19 (fun x => [(V.ptr (.par 0) []), e_TRr x]) fun l => (d_TRr (at_ l 1))
noncomputable def tt_f19 (x : X_f19) : TT Tryz.prog RR_f19 :=
 (.call con_f17 x.cursors fun (y1 : R_f17) =>
 (.ret ((ile x.most (IntKind.u64.wrap (x.cursors.tail - y1))), x)))
theorem sd_f19 (x : X_f19) : (tt_f19 x).Sides :=
  (TT.sC fun _ => TT.sR)
theorem roT_f19 (x : X_f19) : TT.Ro p_f19 (w_f19 x) (tt_f19 x) :=
  (TT.rC fun _ => (TT.rR rfl))
noncomputable def D_f19 : Dyn X_f19 R_f19 := .ro (.of tt_f19) (fun y => (y.1)) (fun y x => (y, x)) fun x y h => congrArg (fun o => (y.1, o)) (roT_f19 x y h)
noncomputable def con_f19 : Con Tryz.prog :=
  mkConP 76 J_f19 S_f19 (.of tt_f19) D_f19 (fun y x => (y, x)) (fun _ _ h => h) (fun y => V.bool y) 1 1 [.any] (by kernel_rfl) (by kernel_rfl) (by kernel_rfl) (lbk mxk lbn 4000 (fun x => by kernel_rfl) sd_f19) rfl rfl (fun _ => rfl) (by kernel_rfl) rfl (fun _ _ => rfl) (fun _ => rfl) (fun x => ⟨(nu_e_TRr : ∀ y, (e_TRr y).NoU) (x), trivial⟩)
abbrev X_fr : Type := Int × TRc
abbrev R_fr : Type := Bool
abbrev RR_fr : Type := Bool × TRc
abbrev p_fr (y : RR_fr) : TRc := y.2
abbrev w_fr (x : X_fr) : TRc := x.2
noncomputable def J_fr : Job Tryz.prog :=
  job Tryz.prog Tryz.f156 16 [] [] [] [.back (.loc 12 0)] [.any] [sh_TRc] [] RR_fr [] fun y => [V.bool y.1, e_TRc y.2]
noncomputable def S_fr : LabS :=
  lab0 Tryz.f156 2 1 X_fr (fun x => [(V.ptr (.par 0) []), (V.int .i64) x.1, e_TRc x.2]) fun l => (dI (at_ l 1), d_TRc (at_ l 2))
noncomputable def tt_fr (x : X_fr) : TT Tryz.prog RR_fr :=
 (.ite (ile 0 x.fst)
 (.need ((true && true) && (Nat.beq x.snd.heads.n x.snd.heads.n)) <|
 (.ret ((ilt x.fst ((x.snd.heads.n : Nat) : Int)), x.snd)))
 (.ret (false, x.snd)))
theorem sd_fr (x : X_fr) : (tt_fr x).Sides :=
  (TT.sI (TT.sN TT.sR) TT.sR)
theorem roT_fr (x : X_fr) : TT.Ro p_fr (w_fr x) (tt_fr x) :=
  (TT.rI (TT.rN (TT.rR rfl)) (TT.rR rfl))
noncomputable def D_fr : Dyn X_fr R_fr := .ro (.of tt_fr) (fun y => (y.1)) (fun y x => (y, x.2)) fun x y h => congrArg (fun o => (y.1, o)) (roT_fr x y h)
noncomputable def con_fr : Con Tryz.prog :=
  mkConP 156 J_fr S_fr (.of tt_fr) D_fr (fun y x => (y, x.2)) (fun _ _ h => h) (fun y => V.bool y) 2 1 [.any, .any] (by kernel_rfl) (by kernel_rfl) (by kernel_rfl) (lbk mxk lbn 4000 (fun x => by kernel_rfl) sd_fr) rfl rfl (fun _ => rfl) (by kernel_rfl) rfl (fun _ _ => rfl) (fun _ => rfl) (fun x => ⟨(nu_e_TRc : ∀ y, (e_TRc y).NoU) (x.2), trivial⟩)
structure TRc_L1 where
  tail : Int
  heads : Ln
def d_TRc_L1 (v : V) : TRc_L1 :=
  ⟨dI (fd v 0), dLn (fd v 1)⟩
def e_TRc_L1_1 (x : TRc_L1) : V :=
  V.cons ((V.int .u64) x.tail) (V.cons ((eLn (.par 1) 35 1) x.heads) (V.unit))
theorem nu_e_TRc_L1_1 (x : TRc_L1) : (e_TRc_L1_1 x).NoU := ⟨trivial, trivial, trivial⟩
abbrev X_fv : Type := Int × TRc_L1 × (Ar Int)
abbrev R_fv : Type := Bool
abbrev RR_fv : Type := Bool × TRc_L1 × (Ar Int)
abbrev p_fv (y : RR_fv) : TRc_L1 × (Ar Int) := y.2
abbrev w_fv (x : X_fv) : TRc_L1 × (Ar Int) := x.2
noncomputable def J_fv : Job Tryz.prog :=
  job Tryz.prog Tryz.f156 16 [] [] [] [] [.any] [.any, .any] [] RR_fv [] fun y => [V.bool y.1, e_TRc_L1_1 y.2.1, (eAr 1 (V.int .u64)) y.2.2]
noncomputable def S_fv : LabS :=
  lab0 Tryz.f156 2 2 X_fv (fun x => [(V.ptr (.par 0) []), (V.int .i64) x.1, e_TRc_L1_1 x.2.1, (eAr 1 (V.int .u64)) x.2.2]) fun l => (dI (at_ l 1), d_TRc_L1 (at_ l 2), (dAr dI) (at_ l 3))
noncomputable def tt_fv (x : X_fv) : TT Tryz.prog RR_fv :=
 (.ite (ile 0 x.fst)
 (.ret ((ilt x.fst ((x.snd.fst.heads.n : Nat) : Int)), x.snd))
 (.ret (false, x.snd)))
theorem sd_fv (x : X_fv) : (tt_fv x).Sides :=
  (TT.sI TT.sR TT.sR)
theorem roT_fv (x : X_fv) : TT.Ro p_fv (w_fv x) (tt_fv x) :=
  (TT.rI (TT.rR rfl) (TT.rR rfl))
noncomputable def D_fv : Dyn X_fv R_fv := .ro (.of tt_fv) (fun y => (y.1)) (fun y x => (y, x.2)) fun x y h => congrArg (fun o => (y.1, o)) (roT_fv x y h)
noncomputable def con_fv : Con Tryz.prog :=
  mkConP 156 J_fv S_fv (.of tt_fv) D_fv (fun y x => (y, x.2)) (fun _ _ h => h) (fun y => V.bool y) 2 2 [.any, .any] (by kernel_rfl) (by kernel_rfl) (by kernel_rfl) (lbk mxk lbn 4000 (fun x => by kernel_rfl) sd_fv) rfl rfl (fun _ => rfl) (by kernel_rfl) rfl (fun _ _ => rfl) (fun _ => rfl) (fun x => ⟨(nu_e_TRc_L1_1 : ∀ y, (e_TRc_L1_1 y).NoU) (x.2.1), (fun _ _ => trivial : ∀ y, ((eAr 1 (V.int .u64)) y).NoU) (x.2.2), trivial⟩)
abbrev X_f15 : Type := Int × TRr
abbrev R_f15 : Type := Bool
abbrev RR_f15 : Type := Bool × TRr
abbrev p_f15 (y : RR_f15) : TRr := y.2
abbrev w_f15 (x : X_f15) : TRr := x.2
noncomputable def J_f15 : Job Tryz.prog :=
  job Tryz.prog Tryz.f107 31 [] [] [(1, [.opn (.par 0) [.fld 0 0, .fld 1 1] 12, .opn (.par 0) [.fld 0 0, .fld 1 1] 19])] [.back (.loc 19 0), .back (.loc 12 0)] [.any] [sh_TRr] [con_fv] RR_f15 [(0, [⟨.loc 12 0, .par 0, [.fld 0 0, .fld 1 1], none, none⟩, ⟨.loc 19 0, .par 0, [.fld 0 0, .fld 1 1], none, none⟩])] fun y => [V.bool y.1, e_TRr y.2]
noncomputable def S_f15 : LabS :=
  lab0 Tryz.f107 2 1 X_f15 (fun x => [(V.ptr (.par 0) []), (V.int .i64) x.1, e_TRr x.2]) fun l => (dI (at_ l 1), d_TRr (at_ l 2))
noncomputable def tt_f15 (x : X_f15) : TT Tryz.prog RR_f15 :=
 (.call con_fv (x.fst, ((TRc_L1.mk x.snd.cursors.tail (Ln.mk x.snd.cursors.heads.nil x.snd.cursors.heads.n)), (Ar.mk x.snd.cursors.heads.n x.snd.cursors.heads.get))) fun (y1 : R_fv) =>
 (.ite (!y1)
 (.need ((true && true) && (Nat.beq x.snd.cursors.heads.n x.snd.cursors.heads.n)) <|
 (.ret (true, x.snd)))
 (.need (inb x.fst x.snd.cursors.heads.n) <|
 (.need ((Nat.beq x.snd.cursors.heads.n x.snd.cursors.heads.n) && true) <|
 (.need ((true && true) && (Nat.beq x.snd.cursors.heads.n x.snd.cursors.heads.n)) <|
 (.ret ((ieq (x.snd.cursors.heads.get ((0 : Nat) + (Int.toNat x.fst))) x.snd.cursors.tail), x.snd)))))))
theorem sd_f15 (x : X_f15) : (tt_f15 x).Sides :=
  (TT.sC fun _ => (TT.sI (TT.sN TT.sR) (TT.sN (TT.sN (TT.sN TT.sR)))))
theorem roT_f15 (x : X_f15) : TT.Ro p_f15 (w_f15 x) (tt_f15 x) :=
  (TT.rC fun _ => (TT.rI (TT.rN (TT.rR rfl)) (TT.rN (TT.rN (TT.rN (TT.rR rfl))))))
noncomputable def D_f15 : Dyn X_f15 R_f15 := .ro (.of tt_f15) (fun y => (y.1)) (fun y x => (y, x.2)) fun x y h => congrArg (fun o => (y.1, o)) (roT_f15 x y h)
noncomputable def con_f15 : Con Tryz.prog :=
  mkConP 107 J_f15 S_f15 (.of tt_f15) D_f15 (fun y x => (y, x.2)) (fun _ _ h => h) (fun y => V.bool y) 2 1 [.any, .any] (by kernel_rfl) (by kernel_rfl) (by kernel_rfl) (lbk mxk lbn 4000 (fun x => by kernel_rfl) sd_f15) rfl rfl (fun _ => rfl) (by kernel_rfl) rfl (fun _ _ => rfl) (fun _ => rfl) (fun x => ⟨(nu_e_TRr : ∀ y, (e_TRr y).NoU) (x.2), trivial⟩)
abbrev X_f11 : Type := TAk × TFa
abbrev R_f11 : Type := Bool
abbrev RR_f11 : Type := Bool × TFa
abbrev p_f11 (y : RR_f11) : TFa := y.2
abbrev w_f11 (x : X_f11) : TFa := x.2
noncomputable def J_f11 : Job Tryz.prog :=
  job Tryz.prog Tryz.f62 27 [(3, 3)] [] [(1, [.opn (.par 0) [.fld 2 3] 9])] [.back (.loc 13 0), .back (.loc 9 0)] [.any] [sh_TFa] [con_f14, con_f15, con_f19] RR_f11 [(0, [⟨.loc 9 0, .par 0, [.fld 2 3], none, none⟩])] fun y => [V.bool y.1, e_TFa y.2]
noncomputable def S_f11 : LabS :=
  lab0 Tryz.f62 2 1 X_f11 (fun x => [(V.ptr (.par 0) []), e_TAk x.1, e_TFa x.2]) fun l => (d_TAk (at_ l 1), d_TFa (at_ l 2))
noncomputable def tt_f11 (x : X_f11) : TT Tryz.prog RR_f11 :=
 (.need (inb x.fst.Ring x.snd.rings.n) <|
 (.need (((Nat.beq x.snd.rings.n x.snd.rings.n) && true) && (!(x.snd.rings.get ((0 : Nat) + (Int.toNat x.fst.Ring))).nil)) <|
 (.ite (ieq x.fst.Kind 1)
 (.call con_f14 (x.snd.rings.get ((0 : Nat) + (Int.toNat x.fst.Ring))).x fun (y1 : R_f14) =>
 (.ite y1
 (.need ((true && true) && (((Nat.beq x.snd.rings.n x.snd.rings.n) && (Nat.blt ((0 : Nat) + (Int.toNat x.fst.Ring)) x.snd.rings.n)) && (!(x.snd.rings.get ((0 : Nat) + (Int.toNat x.fst.Ring))).nil))) <|
 (.side (((fun v : Nat → V => v = v) (fun i2 => (cond (Nat.beq i2 ((0 : Nat) + (Int.toNat x.fst.Ring))) (V.ptr (Id.loc 13 0) List.nil) (V.obox (x.snd.rings.get i2).nil (e_TRr (x.snd.rings.get i2).x))))) ∧ (((fun v : V => v = v) (e_TRr (x.snd.rings.get ((0 : Nat) + (Int.toNat x.fst.Ring))).x)) ∧ ((fun v : V => v = v) (V.obox (x.snd.rings.get ((0 : Nat) + (Int.toNat x.fst.Ring))).nil (e_TRr (x.snd.rings.get ((0 : Nat) + (Int.toNat x.fst.Ring))).x))))) <|
 (.need ((true && true) && (Nat.beq x.snd.rings.n x.snd.rings.n)) <|
 (.ret (true, x.snd)))))
 (.call con_f19 (x.snd.rings.get ((0 : Nat) + (Int.toNat x.fst.Ring))).x fun (y2 : R_f19) =>
 (.need ((true && true) && (((Nat.beq x.snd.rings.n x.snd.rings.n) && (Nat.blt ((0 : Nat) + (Int.toNat x.fst.Ring)) x.snd.rings.n)) && (!(x.snd.rings.get ((0 : Nat) + (Int.toNat x.fst.Ring))).nil))) <|
 (.side (((fun v : Nat → V => v = v) (fun i3 => (cond (Nat.beq i3 ((0 : Nat) + (Int.toNat x.fst.Ring))) (V.ptr (Id.loc 13 0) List.nil) (V.obox (x.snd.rings.get i3).nil (e_TRr (x.snd.rings.get i3).x))))) ∧ (((fun v : V => v = v) (e_TRr (x.snd.rings.get ((0 : Nat) + (Int.toNat x.fst.Ring))).x)) ∧ ((fun v : V => v = v) (V.obox (x.snd.rings.get ((0 : Nat) + (Int.toNat x.fst.Ring))).nil (e_TRr (x.snd.rings.get ((0 : Nat) + (Int.toNat x.fst.Ring))).x))))) <|
 (.need ((true && true) && (Nat.beq x.snd.rings.n x.snd.rings.n)) <|
 (.ret (y2, x.snd))))))))
 (.call con_f15 (x.fst.Reader, (x.snd.rings.get ((0 : Nat) + (Int.toNat x.fst.Ring))).x) fun (y1 : R_f15) =>
 (.need ((true && true) && (((Nat.beq x.snd.rings.n x.snd.rings.n) && (Nat.blt ((0 : Nat) + (Int.toNat x.fst.Ring)) x.snd.rings.n)) && (!(x.snd.rings.get ((0 : Nat) + (Int.toNat x.fst.Ring))).nil))) <|
 (.side (((fun v : Nat → V => v = v) (fun i2 => (cond (Nat.beq i2 ((0 : Nat) + (Int.toNat x.fst.Ring))) (V.ptr (Id.loc 13 0) List.nil) (V.obox (x.snd.rings.get i2).nil (e_TRr (x.snd.rings.get i2).x))))) ∧ (((fun v : V => v = v) (e_TRr (x.snd.rings.get ((0 : Nat) + (Int.toNat x.fst.Ring))).x)) ∧ ((fun v : V => v = v) (V.obox (x.snd.rings.get ((0 : Nat) + (Int.toNat x.fst.Ring))).nil (e_TRr (x.snd.rings.get ((0 : Nat) + (Int.toNat x.fst.Ring))).x))))) <|
 (.need ((true && true) && (Nat.beq x.snd.rings.n x.snd.rings.n)) <|
 (.ret (y1, x.snd)))))))))
theorem sd_f11 (x : X_f11) : (tt_f11 x).Sides :=
  (TT.sN (TT.sN (TT.sI (TT.sC fun _ => (TT.sI (TT.sN (TT.sS ⟨rfl, ⟨rfl, rfl⟩⟩ (TT.sN TT.sR))) (TT.sC fun _ => (TT.sN (TT.sS ⟨rfl, ⟨rfl, rfl⟩⟩ (TT.sN TT.sR)))))) (TT.sC fun _ => (TT.sN (TT.sS ⟨rfl, ⟨rfl, rfl⟩⟩ (TT.sN TT.sR)))))))
theorem roT_f11 (x : X_f11) : TT.Ro p_f11 (w_f11 x) (tt_f11 x) :=
  (TT.rN (TT.rN (TT.rI (TT.rC fun _ => (TT.rI (TT.rN (TT.rS (TT.rN (TT.rR rfl)))) (TT.rC fun _ => (TT.rN (TT.rS (TT.rN (TT.rR rfl))))))) (TT.rC fun _ => (TT.rN (TT.rS (TT.rN (TT.rR rfl))))))))
noncomputable def D_f11 : Dyn X_f11 R_f11 := .ro (.of tt_f11) (fun y => (y.1)) (fun y x => (y, x.2)) fun x y h => congrArg (fun o => (y.1, o)) (roT_f11 x y h)
noncomputable def con_f11 : Con Tryz.prog :=
  mkConP 62 J_f11 S_f11 (.of tt_f11) D_f11 (fun y x => (y, x.2)) (fun _ _ h => h) (fun y => V.bool y) 2 1 [.any, .any] (by kernel_rfl) (by kernel_rfl) (by kernel_rfl) (lbk mxk lbn 4000 (fun x => by kernel_rfl) sd_f11) rfl rfl (fun _ => rfl) (by kernel_rfl) rfl (fun _ _ => rfl) (fun _ => rfl) (fun x => ⟨(nu_e_TFa : ∀ y, (e_TFa y).NoU) (x.2), trivial⟩)
abbrev X_f1o : Type := TRr
abbrev R_f1o : Type := Int
abbrev RR_f1o : Type := Int × TRr
abbrev p_f1o (y : RR_f1o) : TRr := y.2
abbrev w_f1o (x : X_f1o) : TRr := x
noncomputable def J_f1o : Job Tryz.prog :=
  job Tryz.prog Tryz.f108 10 [] [] [] [] [.any] [sh_TRr] [] RR_f1o [] fun y => [(V.int .u64) y.1, e_TRr y.2]
noncomputable def S_f1o : LabS :=
  lab0 Tryz.f108 1 1 X_f1o (fun x => [(V.ptr (.par 0) []), e_TRr x]) fun l => (d_TRr (at_ l 1))
noncomputable def tt_f1o (x : X_f1o) : TT Tryz.prog RR_f1o :=
 (.ret (x.cursors.tail, x))
theorem sd_f1o (x : X_f1o) : (tt_f1o x).Sides :=
  TT.sR
theorem roT_f1o (x : X_f1o) : TT.Ro p_f1o (w_f1o x) (tt_f1o x) :=
  (TT.rR rfl)
noncomputable def D_f1o : Dyn X_f1o R_f1o := .ro (.of tt_f1o) (fun y => (y.1)) (fun y x => (y, x)) fun x y h => congrArg (fun o => (y.1, o)) (roT_f1o x y h)
noncomputable def con_f1o : Con Tryz.prog :=
  mkConP 108 J_f1o S_f1o (.of tt_f1o) D_f1o (fun y x => (y, x)) (fun _ _ h => h) (fun y => (V.int .u64) y) 1 1 [.any] (by kernel_rfl) (by kernel_rfl) (by kernel_rfl) (lbk mxk lbn 4000 (fun x => by kernel_rfl) sd_f1o) rfl rfl (fun _ => rfl) (by kernel_rfl) rfl (fun _ _ => rfl) (fun _ => rfl) (fun x => ⟨(nu_e_TRr : ∀ y, (e_TRr y).NoU) (x), trivial⟩)
structure TSs_L0 where
  l : Ln
  readers : Int
def d_TSs_L0 (v : V) : TSs_L0 :=
  ⟨dLn (fd v 0), dI (fd v 1)⟩
def e_TSs_L0_1 (x : TSs_L0) : V :=
  V.cons ((eLn (.par 1) 150 3) x.l) (V.cons ((V.int .i64) x.readers) (V.unit))
theorem nu_e_TSs_L0_1 (x : TSs_L0) : (e_TSs_L0_1 x).NoU := ⟨trivial, trivial, trivial⟩
abbrev X_fo : Type := Int × TSs_L0 × (Ar TSo)
abbrev R_fo : Type := (Nat × Nat)
abbrev RR_fo : Type := (Nat × Nat) × TSs_L0 × (Ar TSo)
abbrev p_fo (y : RR_fo) : TSs_L0 × (Ar TSo) := y.2
abbrev w_fo (x : X_fo) : TSs_L0 × (Ar TSo) := x.2
noncomputable def J_fo : Job Tryz.prog :=
  job Tryz.prog Tryz.f191 18 [] [] [] [.shut 4] [.any] [.any, .any] [] RR_fo [] fun y => [(ePt 1 3) y.1, e_TSs_L0_1 y.2.1, (eAr 3 e_TSo) y.2.2]
noncomputable def S_fo : LabS :=
  lab0 Tryz.f191 2 2 X_fo (fun x => [(V.ptr (.par 0) []), (V.int .u64) x.1, e_TSs_L0_1 x.2.1, (eAr 3 e_TSo) x.2.2]) fun l => (dI (at_ l 1), d_TSs_L0 (at_ l 2), (dAr d_TSo) (at_ l 3))
noncomputable def tt_fo (x : X_fo) : TT Tryz.prog RR_fo :=
 (.need (!(ieq (IntKind.u64.wrap ((x.snd.fst.l.n : Nat) : Int)) 0)) <|
 (.need (inb (Int.tmod x.fst (IntKind.u64.wrap ((x.snd.fst.l.n : Nat) : Int))) x.snd.fst.l.n) <|
 (.ret ((((0 : Nat) + (Int.toNat (Int.tmod x.fst (IntKind.u64.wrap ((x.snd.fst.l.n : Nat) : Int))))), x.snd.fst.l.n), (x.snd.fst, x.snd.snd)))))
theorem sd_fo (x : X_fo) : (tt_fo x).Sides :=
  (TT.sN (TT.sN TT.sR))
theorem roT_fo (x : X_fo) : TT.Ro p_fo (w_fo x) (tt_fo x) :=
  (TT.rN (TT.rN (TT.rR rfl)))
noncomputable def D_fo : Dyn X_fo R_fo := .ro (.of tt_fo) (fun y => (y.1)) (fun y x => (y, x.2)) fun x y h => congrArg (fun o => (y.1, o)) (roT_fo x y h)
noncomputable def con_fo : Con Tryz.prog :=
  mkConP 191 J_fo S_fo (.of tt_fo) D_fo (fun y x => (y, x.2)) (fun _ _ h => h) (fun y => (ePt 1 3) y) 2 2 [.any, .any] (by kernel_rfl) (by kernel_rfl) (by kernel_rfl) (lbk mxk lbn 4000 (fun x => by kernel_rfl) sd_fo) rfl rfl (fun _ => rfl) (by kernel_rfl) rfl (fun _ _ => rfl) (fun _ => rfl) (fun x => ⟨(nu_e_TSs_L0_1 : ∀ y, (e_TSs_L0_1 y).NoU) (x.2.1), (fun _ _ => (nu_e_TSo) _ : ∀ y, ((eAr 3 e_TSo) y).NoU) (x.2.2), trivial⟩)
abbrev X_f1j : Type := Int × TSs
abbrev R_f1j : Type := Bool
abbrev RR_f1j : Type := Bool × TSs
abbrev p_f1j (y : RR_f1j) : TSs := y.2
abbrev w_f1j (x : X_f1j) : TSs := x.2
noncomputable def J_f1j : Job Tryz.prog :=
  job Tryz.prog Tryz.f157 22 [] [] [(1, [.opn (.par 0) [.fld 0 0] 14])] [.back (.loc 14 0)] [.any] [sh_TSs] [con_fo, con_f2b] RR_f1j [(0, [⟨.loc 14 0, .par 0, [.fld 0 0], none, none⟩])] fun y => [V.bool y.1, e_TSs y.2]
noncomputable def S_f1j : LabS :=
  lab0 Tryz.f157 2 1 X_f1j (fun x => [(V.ptr (.par 0) []), (V.int .u64) x.1, e_TSs x.2]) fun l => (dI (at_ l 1), d_TSs (at_ l 2))
noncomputable def tt_f1j (x : X_f1j) : TT Tryz.prog RR_f1j :=
 (.ite (ilt x.fst 4611686018427387904)
 (.call con_fo (x.fst, ((TSs_L0.mk (Ln.mk x.snd.l.nil x.snd.l.n) x.snd.readers), (Ar.mk x.snd.l.n x.snd.l.get))) fun (y1 : R_fo) =>
 (.need ((Nat.beq x.snd.l.n y1.snd) && true) <|
 (.call con_f2b x.fst fun (y2 : R_f2b) =>
 (.need ((true && true) && (Nat.beq x.snd.l.n x.snd.l.n)) <|
 (.ret ((ieq (x.snd.l.get y1.fst).Stamp y2), x.snd))))))
 (.need ((true && true) && (Nat.beq x.snd.l.n x.snd.l.n)) <|
 (.ret (false, x.snd))))
theorem sd_f1j (x : X_f1j) : (tt_f1j x).Sides :=
  (TT.sI (TT.sC fun _ => (TT.sN (TT.sC fun _ => (TT.sN TT.sR)))) (TT.sN TT.sR))
theorem roT_f1j (x : X_f1j) : TT.Ro p_f1j (w_f1j x) (tt_f1j x) :=
  (TT.rI (TT.rC fun _ => (TT.rN (TT.rC fun _ => (TT.rN (TT.rR rfl))))) (TT.rN (TT.rR rfl)))
noncomputable def D_f1j : Dyn X_f1j R_f1j := .ro (.of tt_f1j) (fun y => (y.1)) (fun y x => (y, x.2)) fun x y h => congrArg (fun o => (y.1, o)) (roT_f1j x y h)
noncomputable def con_f1j : Con Tryz.prog :=
  mkConP 157 J_f1j S_f1j (.of tt_f1j) D_f1j (fun y x => (y, x.2)) (fun _ _ h => h) (fun y => V.bool y) 2 1 [.any, .any] (by kernel_rfl) (by kernel_rfl) (by kernel_rfl) (lbk mxk lbn 4000 (fun x => by kernel_rfl) sd_f1j) rfl rfl (fun _ => rfl) (by kernel_rfl) rfl (fun _ _ => rfl) (fun _ => rfl) (fun x => ⟨(nu_e_TSs : ∀ y, (e_TSs y).NoU) (x.2), trivial⟩)
abbrev X_f1w : Type := Int × TRr
abbrev R_f1w : Type := Bool
abbrev RR_f1w : Type := Bool × TRr
abbrev p_f1w (y : RR_f1w) : TRr := y.2
abbrev w_f1w (x : X_f1w) : TRr := x.2
noncomputable def J_f1w : Job Tryz.prog :=
  job Tryz.prog Tryz.f109 24 [] [] [] [.back (.loc 20 0)] [.any] [sh_TRr] [con_f1j] RR_f1w [] fun y => [V.bool y.1, e_TRr y.2]
noncomputable def S_f1w : LabS :=
  lab0 Tryz.f109 2 1 X_f1w (fun x => [(V.ptr (.par 0) []), (V.int .u64) x.1, e_TRr x.2]) fun l => (dI (at_ l 1), d_TRr (at_ l 2))
noncomputable def tt_f1w (x : X_f1w) : TT Tryz.prog RR_f1w :=
 (.ite (ilt x.fst x.snd.cursors.tail)
 (.need (true && (!x.snd.s.nil)) <|
 (.call con_f1j (x.fst, x.snd.s.x) fun (y1 : R_f1j) =>
 (.need ((true && true) && (!x.snd.s.nil)) <|
 (.side ((fun v : V => v = v) (e_TSs x.snd.s.x)) <|
 (.ret (y1, x.snd))))))
 (.ret (false, x.snd)))
theorem sd_f1w (x : X_f1w) : (tt_f1w x).Sides :=
  (TT.sI (TT.sN (TT.sC fun _ => (TT.sN (TT.sS rfl TT.sR)))) TT.sR)
theorem roT_f1w (x : X_f1w) : TT.Ro p_f1w (w_f1w x) (tt_f1w x) :=
  (TT.rI (TT.rN (TT.rC fun _ => (TT.rN (TT.rS (TT.rR rfl))))) (TT.rR rfl))
noncomputable def D_f1w : Dyn X_f1w R_f1w := .ro (.of tt_f1w) (fun y => (y.1)) (fun y x => (y, x.2)) fun x y h => congrArg (fun o => (y.1, o)) (roT_f1w x y h)
noncomputable def con_f1w : Con Tryz.prog :=
  mkConP 109 J_f1w S_f1w (.of tt_f1w) D_f1w (fun y x => (y, x.2)) (fun _ _ h => h) (fun y => V.bool y) 2 1 [.any, .any] (by kernel_rfl) (by kernel_rfl) (by kernel_rfl) (lbk mxk lbn 4000 (fun x => by kernel_rfl) sd_f1w) rfl rfl (fun _ => rfl) (by kernel_rfl) rfl (fun _ _ => rfl) (fun _ => rfl) (fun x => ⟨(nu_e_TRr : ∀ y, (e_TRr y).NoU) (x.2), trivial⟩)
abbrev X_fm : Type := Int × TRr
abbrev R_fm : Type := Int
abbrev RR_fm : Type := Int × TRr
abbrev p_fm (y : RR_fm) : TRr := y.2
abbrev w_fm (x : X_fm) : TRr := x.2
noncomputable def J_fm : Job Tryz.prog :=
  job Tryz.prog Tryz.f110 23 [] [] [] [.back (.loc 19 0)] [.any] [sh_TRr] [con_fr] RR_fm [] fun y => [(V.int .u64) y.1, e_TRr y.2]
noncomputable def S_fm : LabS :=
  lab0 Tryz.f110 2 1 X_fm (fun x => [(V.ptr (.par 0) []), (V.int .i64) x.1, e_TRr x.2]) fun l => (dI (at_ l 1), d_TRr (at_ l 2))
structure X_fm_3 where
  j_1 : Int
  o_0 : TRr
noncomputable def S_fm_3 : LabS :=
  labAt Tryz.f110 3 [(0, .any), (1, .any)] [sh_TRr] [] X_fm_3 (fun x => [(V.ptr (.par 0) []), (V.int .i64) x.j_1, e_TRr x.o_0]) fun l => ⟨dI (at_ l 1), d_TRr (at_ l 2)⟩
abbrev w_fm_3 (x : X_fm_3) : TRr := (x.o_0)
noncomputable def tt_fm_3 (x : X_fm_3) : TT Tryz.prog RR_fm :=
 (.need (inb x.j_1 x.o_0.cursors.heads.n) <|
 (.need ((Nat.beq x.o_0.cursors.heads.n x.o_0.cursors.heads.n) && true) <|
 (.need ((true && true) && (Nat.beq x.o_0.cursors.heads.n x.o_0.cursors.heads.n)) <|
 (.ret ((x.o_0.cursors.heads.get ((0 : Nat) + (Int.toNat x.j_1))), x.o_0)))))
theorem sd_fm_3 (x : X_fm_3) : (tt_fm_3 x).Sides :=
  (TT.sN (TT.sN (TT.sN TT.sR)))
theorem roT_fm_3 (x : X_fm_3) : TT.Ro p_fm (w_fm_3 x) (tt_fm_3 x) :=
  (TT.rN (TT.rN (TT.rN (TT.rR rfl))))
noncomputable def D_fm_3 : Dyn X_fm_3 RR_fm := .of tt_fm_3
theorem ok_fm_3 : LabOK J_fm S_fm_3 D_fm_3 :=
  lbk mxk lbn 4000 (fun x => by kernel_rfl) sd_fm_3
theorem ro_fm_3 : ∀ x y, D_fm_3.rel x y → p_fm y = w_fm_3 x :=
  roT_fm_3 
noncomputable def tt_fm (x : X_fm) : TT Tryz.prog RR_fm :=
 (.call con_fr (x.fst, x.snd.cursors) fun (y1 : R_fr) =>
 (.ite (!y1)
 (.ret (0, x.snd))
 (.jump S_fm_3 D_fm_3 (X_fm_3.mk x.fst x.snd))))
theorem sd_fm (x : X_fm) : (tt_fm x).Sides :=
  (TT.sC fun _ => (TT.sI TT.sR TT.sJ))
theorem roT_fm (x : X_fm) : TT.Ro p_fm (w_fm x) (tt_fm x) :=
  (TT.rC fun _ => (TT.rI (TT.rR rfl) (TT.rJ (ro_fm_3 _))))
noncomputable def D_fm : Dyn X_fm R_fm := .ro (.of tt_fm) (fun y => (y.1)) (fun y x => (y, x.2)) fun x y h => congrArg (fun o => (y.1, o)) (roT_fm x y h)
noncomputable def con_fm : Con Tryz.prog :=
  mkConP 110 J_fm S_fm (.of tt_fm) D_fm (fun y x => (y, x.2)) (fun _ _ h => h) (fun y => (V.int .u64) y) 2 1 [.any, .any] (by kernel_rfl) (by kernel_rfl) (by kernel_rfl) (lbk mxk (lbc ok_fm_3 rfl lbn) 4000 (fun x => by kernel_rfl) sd_fm) rfl rfl (fun _ => rfl) (by kernel_rfl) rfl (fun _ _ => rfl) (fun _ => rfl) (fun x => ⟨(nu_e_TRr : ∀ y, (e_TRr y).NoU) (x.2), trivial⟩)
abbrev X_f2n : Type := Int
abbrev R_f2n : Type := Int
noncomputable def J_f2n : Job Tryz.prog :=
  job Tryz.prog Tryz.f193 6 [] [] [] [] [.any] [] [] R_f2n [] fun y => [(V.int .u64) y]
noncomputable def S_f2n : LabS :=
  lab0 Tryz.f193 1 0 X_f2n (fun x => [(V.int .u64) x]) fun l => (dI (at_ l 0))
noncomputable def tt_f2n (x : X_f2n) : TT Tryz.prog R_f2n :=
 (.ret (IntKind.u64.wrap ((IntKind.u64.wrap ((2 : Int) * x)) + 1)))
theorem sd_f2n (x : X_f2n) : (tt_f2n x).Sides :=
  TT.sR
noncomputable def D_f2n : Dyn X_f2n R_f2n := .of tt_f2n
noncomputable def con_f2n : Con Tryz.prog :=
  mkCon 193 J_f2n S_f2n D_f2n D_f2n (fun _ _ h => h) 1 0 [.any] (by kernel_rfl) (by kernel_rfl) (by kernel_rfl) (lbk mxk lbn 4000 (fun x => by kernel_rfl) sd_f2n) rfl rfl (fun _ => rfl) (by kernel_rfl) rfl (fun _ => rfl) (fun x y _ => by kernel_rfl)
abbrev X_fk : Type := Int × Int × TSs
abbrev R_fk : Type := Int
abbrev RR_fk : Type := Int × TSs
abbrev p_fk (y : RR_fk) : TSs := y.2
abbrev w_fk (x : X_fk) : TSs := x.2.2
noncomputable def J_fk : Job Tryz.prog :=
  job Tryz.prog Tryz.f192 51 [] [(7, [.back (.loc 26 0)]), (10, [.back (.loc 26 0)]), (11, [.back (.loc 26 0)])] [(5, [.opn (.par 0) [.fld 0 0] 26])] [.back (.loc 26 0)] [.any] [sh_TSs] [con_fo, con_f2n] RR_fk [(0, [⟨.loc 26 0, .par 0, [.fld 0 0], none, none⟩]), (5, [⟨.loc 26 0, .par 0, [.fld 0 0], none, none⟩])] fun y => [(V.int .i64) y.1, e_TSs y.2]
noncomputable def S_fk : LabS :=
  lab0 Tryz.f192 3 1 X_fk (fun x => [(V.ptr (.par 0) []), (V.int .i64) x.1, (V.int .u64) x.2.1, e_TSs x.2.2]) fun l => (dI (at_ l 1), dI (at_ l 2), d_TSs (at_ l 3))
structure X_fk_5 where
  j_1 : Int
  t_2 : Int
  o_0 : TSs
noncomputable def S_fk_5 : LabS :=
  labAt Tryz.f192 5 [(0, .any), (1, .any), (2, .any)] [sh_TSs] [] X_fk_5 (fun x => [(V.ptr (.par 0) []), (V.int .i64) x.j_1, (V.int .u64) x.t_2, e_TSs x.o_0]) fun l => ⟨dI (at_ l 1), dI (at_ l 2), d_TSs (at_ l 3)⟩
abbrev w_fk_5 (x : X_fk_5) : TSs := (x.o_0)
noncomputable def tt_fk_5 (x : X_fk_5) : TT Tryz.prog RR_fk :=
 (.call con_fo (x.t_2, ((TSs_L0.mk (Ln.mk x.o_0.l.nil x.o_0.l.n) x.o_0.readers), (Ar.mk x.o_0.l.n x.o_0.l.get))) fun (y1 : R_fo) =>
 (.need ((Nat.beq x.o_0.l.n y1.snd) && true) <|
 (.call con_f2n x.t_2 fun (y2 : R_f2n) =>
 (.ite (ilt (x.o_0.l.get y1.fst).Stamp y2)
 (.need ((true && true) && (Nat.beq x.o_0.l.n x.o_0.l.n)) <|
 (.ret (9, x.o_0)))
 (.need ((Nat.beq x.o_0.l.n y1.snd) && true) <|
 (.call con_f2n x.t_2 fun (y3 : R_f2n) =>
 (.ite (ilt y3 (x.o_0.l.get y1.fst).Stamp)
 (.need ((true && true) && (Nat.beq x.o_0.l.n x.o_0.l.n)) <|
 (.ret (11, x.o_0)))
 (.need ((Nat.beq x.o_0.l.n y1.snd) && true) <|
 (.need (ile 0 x.j_1) <|
 (.ite (ieq (Vm.bits .and IntKind.i64 (shr IntKind.i64 (x.o_0.l.get y1.fst).Left x.j_1) 1) 0)
 (.need ((true && true) && (Nat.beq x.o_0.l.n x.o_0.l.n)) <|
 (.ret (11, x.o_0)))
 (.need ((true && true) && (Nat.beq x.o_0.l.n x.o_0.l.n)) <|
 (.ret (0, x.o_0)))))))))))))
theorem sd_fk_5 (x : X_fk_5) : (tt_fk_5 x).Sides :=
  (TT.sC fun _ => (TT.sN (TT.sC fun _ => (TT.sI (TT.sN TT.sR) (TT.sN (TT.sC fun _ => (TT.sI (TT.sN TT.sR) (TT.sN (TT.sN (TT.sI (TT.sN TT.sR) (TT.sN TT.sR)))))))))))
theorem roT_fk_5 (x : X_fk_5) : TT.Ro p_fk (w_fk_5 x) (tt_fk_5 x) :=
  (TT.rC fun _ => (TT.rN (TT.rC fun _ => (TT.rI (TT.rN (TT.rR rfl)) (TT.rN (TT.rC fun _ => (TT.rI (TT.rN (TT.rR rfl)) (TT.rN (TT.rN (TT.rI (TT.rN (TT.rR rfl)) (TT.rN (TT.rR rfl))))))))))))
noncomputable def D_fk_5 : Dyn X_fk_5 RR_fk := .of tt_fk_5
theorem ok_fk_5 : LabOK J_fk S_fk_5 D_fk_5 :=
  lbk mxk lbn 4000 (fun x => by kernel_rfl) sd_fk_5
theorem ro_fk_5 : ∀ x y, D_fk_5.rel x y → p_fk y = w_fk_5 x :=
  roT_fk_5 
noncomputable def tt_fk (x : X_fk) : TT Tryz.prog RR_fk :=
 (.ite (ile 4611686018427387904 x.snd.fst)
 (.ret (1, x.snd.snd))
 (.ite (ilt x.fst 0)
 (.ret (1, x.snd.snd))
 (.ite (ile x.snd.snd.readers x.fst)
 (.ret (1, x.snd.snd))
 (.jump S_fk_5 D_fk_5 (X_fk_5.mk x.fst x.snd.fst x.snd.snd)))))
theorem sd_fk (x : X_fk) : (tt_fk x).Sides :=
  (TT.sI TT.sR (TT.sI TT.sR (TT.sI TT.sR TT.sJ)))
theorem roT_fk (x : X_fk) : TT.Ro p_fk (w_fk x) (tt_fk x) :=
  (TT.rI (TT.rR rfl) (TT.rI (TT.rR rfl) (TT.rI (TT.rR rfl) (TT.rJ (ro_fk_5 _)))))
noncomputable def D_fk : Dyn X_fk R_fk := .ro (.of tt_fk) (fun y => (y.1)) (fun y x => (y, x.2.2)) fun x y h => congrArg (fun o => (y.1, o)) (roT_fk x y h)
noncomputable def con_fk : Con Tryz.prog :=
  mkConP 192 J_fk S_fk (.of tt_fk) D_fk (fun y x => (y, x.2.2)) (fun _ _ h => h) (fun y => (V.int .i64) y) 3 1 [.any, .any, .any] (by kernel_rfl) (by kernel_rfl) (by kernel_rfl) (lbk mxk (lbc ok_fk_5 rfl lbn) 4000 (fun x => by kernel_rfl) sd_fk) rfl rfl (fun _ => rfl) (by kernel_rfl) rfl (fun _ _ => rfl) (fun _ => rfl) (fun x => ⟨(nu_e_TSs : ∀ y, (e_TSs y).NoU) (x.2.2), trivial⟩)
abbrev X_f1q : Type := Int × Int × TSs
abbrev R_f1q : Type := Bool
abbrev RR_f1q : Type := Bool × TSs
abbrev p_f1q (y : RR_f1q) : TSs := y.2
abbrev w_f1q (x : X_f1q) : TSs := x.2.2
noncomputable def J_f1q : Job Tryz.prog :=
  job Tryz.prog Tryz.f158 12 [] [] [] [] [.any] [sh_TSs] [con_fk] RR_f1q [] fun y => [V.bool y.1, e_TSs y.2]
noncomputable def S_f1q : LabS :=
  lab0 Tryz.f158 3 1 X_f1q (fun x => [(V.ptr (.par 0) []), (V.int .i64) x.1, (V.int .u64) x.2.1, e_TSs x.2.2]) fun l => (dI (at_ l 1), dI (at_ l 2), d_TSs (at_ l 3))
noncomputable def tt_f1q (x : X_f1q) : TT Tryz.prog RR_f1q :=
 (.call con_fk x fun (y1 : R_fk) =>
 (.ret ((ieq y1 0), x.snd.snd)))
theorem sd_f1q (x : X_f1q) : (tt_f1q x).Sides :=
  (TT.sC fun _ => TT.sR)
theorem roT_f1q (x : X_f1q) : TT.Ro p_f1q (w_f1q x) (tt_f1q x) :=
  (TT.rC fun _ => (TT.rR rfl))
noncomputable def D_f1q : Dyn X_f1q R_f1q := .ro (.of tt_f1q) (fun y => (y.1)) (fun y x => (y, x.2.2)) fun x y h => congrArg (fun o => (y.1, o)) (roT_f1q x y h)
noncomputable def con_f1q : Con Tryz.prog :=
  mkConP 158 J_f1q S_f1q (.of tt_f1q) D_f1q (fun y x => (y, x.2.2)) (fun _ _ h => h) (fun y => V.bool y) 3 1 [.any, .any, .any] (by kernel_rfl) (by kernel_rfl) (by kernel_rfl) (lbk mxk lbn 4000 (fun x => by kernel_rfl) sd_f1q) rfl rfl (fun _ => rfl) (by kernel_rfl) rfl (fun _ _ => rfl) (fun _ => rfl) (fun x => ⟨(nu_e_TSs : ∀ y, (e_TSs y).NoU) (x.2.2), trivial⟩)
abbrev X_f23 : Type := Int × Int × TRr
abbrev R_f23 : Type := Bool
abbrev RR_f23 : Type := Bool × TRr
abbrev p_f23 (y : RR_f23) : TRr := y.2
abbrev w_f23 (x : X_f23) : TRr := x.2.2
noncomputable def J_f23 : Job Tryz.prog :=
  job Tryz.prog Tryz.f111 37 [] [] [] [.back (.loc 32 0), .back (.loc 22 0)] [.any] [sh_TRr] [con_fr, con_f1q] RR_f23 [] fun y => [V.bool y.1, e_TRr y.2]
noncomputable def S_f23 : LabS :=
  lab0 Tryz.f111 3 1 X_f23 (fun x => [(V.ptr (.par 0) []), (V.int .i64) x.1, (V.int .u64) x.2.1, e_TRr x.2.2]) fun l => (dI (at_ l 1), dI (at_ l 2), d_TRr (at_ l 3))
noncomputable def tt_f23 (x : X_f23) : TT Tryz.prog RR_f23 :=
 (.call con_fr (x.fst, x.snd.snd.cursors) fun (y1 : R_fr) =>
 (.ite y1
 (.need (inb x.fst x.snd.snd.cursors.heads.n) <|
 (.need ((Nat.beq x.snd.snd.cursors.heads.n x.snd.snd.cursors.heads.n) && true) <|
 (.ite (ilt x.snd.fst (x.snd.snd.cursors.heads.get ((0 : Nat) + (Int.toNat x.fst))))
 (.need (true && (!x.snd.snd.s.nil)) <|
 (.call con_f1q (x.fst, (x.snd.fst, x.snd.snd.s.x)) fun (y2 : R_f1q) =>
 (.need ((true && true) && (!x.snd.snd.s.nil)) <|
 (.side ((fun v : V => v = v) (e_TSs x.snd.snd.s.x)) <|
 (.need ((true && true) && (Nat.beq x.snd.snd.cursors.heads.n x.snd.snd.cursors.heads.n)) <|
 (.ret (y2, x.snd.snd)))))))
 (.need ((true && true) && (Nat.beq x.snd.snd.cursors.heads.n x.snd.snd.cursors.heads.n)) <|
 (.ret (false, x.snd.snd))))))
 (.ret (false, x.snd.snd))))
theorem sd_f23 (x : X_f23) : (tt_f23 x).Sides :=
  (TT.sC fun _ => (TT.sI (TT.sN (TT.sN (TT.sI (TT.sN (TT.sC fun _ => (TT.sN (TT.sS rfl (TT.sN TT.sR))))) (TT.sN TT.sR)))) TT.sR))
theorem roT_f23 (x : X_f23) : TT.Ro p_f23 (w_f23 x) (tt_f23 x) :=
  (TT.rC fun _ => (TT.rI (TT.rN (TT.rN (TT.rI (TT.rN (TT.rC fun _ => (TT.rN (TT.rS (TT.rN (TT.rR rfl)))))) (TT.rN (TT.rR rfl))))) (TT.rR rfl)))
noncomputable def D_f23 : Dyn X_f23 R_f23 := .ro (.of tt_f23) (fun y => (y.1)) (fun y x => (y, x.2.2)) fun x y h => congrArg (fun o => (y.1, o)) (roT_f23 x y h)
noncomputable def con_f23 : Con Tryz.prog :=
  mkConP 111 J_f23 S_f23 (.of tt_f23) D_f23 (fun y x => (y, x.2.2)) (fun _ _ h => h) (fun y => V.bool y) 3 1 [.any, .any, .any] (by kernel_rfl) (by kernel_rfl) (by kernel_rfl) (lbk mxk lbn 4000 (fun x => by kernel_rfl) sd_f23) rfl rfl (fun _ => rfl) (by kernel_rfl) rfl (fun _ _ => rfl) (fun _ => rfl) (fun x => ⟨(nu_e_TRr : ∀ y, (e_TRr y).NoU) (x.2.2), trivial⟩)
abbrev X_f10 : Type := TEv × TAk × TFa
abbrev R_f10 : Type := Bool
abbrev RR_f10 : Type := Bool × TFa
abbrev p_f10 (y : RR_f10) : TFa := y.2
abbrev w_f10 (x : X_f10) : TFa := x.2.2
noncomputable def J_f10 : Job Tryz.prog :=
  job Tryz.prog Tryz.f64 65 [(4, 3), (5, 3)] [] [(1, [.opn (.par 0) [.fld 2 3] 11])] [.back (.loc 15 0), .back (.loc 11 0)] [.any] [sh_TFa] [con_f15, con_f1w, con_f19, con_f23, con_fm, con_f1o] RR_f10 [(0, [⟨.loc 11 0, .par 0, [.fld 2 3], none, none⟩])] fun y => [V.bool y.1, e_TFa y.2]
noncomputable def S_f10 : LabS :=
  lab0 Tryz.f64 3 1 X_f10 (fun x => [(V.ptr (.par 0) []), e_TEv x.1, e_TAk x.2.1, e_TFa x.2.2]) fun l => (d_TEv (at_ l 1), d_TAk (at_ l 2), d_TFa (at_ l 3))
noncomputable def tt_f10 (x : X_f10) : TT Tryz.prog RR_f10 :=
 (.need (inb x.fst.Ring x.snd.snd.rings.n) <|
 (.need (((Nat.beq x.snd.snd.rings.n x.snd.snd.rings.n) && true) && (!(x.snd.snd.rings.get ((0 : Nat) + (Int.toNat x.fst.Ring))).nil)) <|
 (.ite (ieq x.fst.Kind 1)
 (.call con_f19 (x.snd.snd.rings.get ((0 : Nat) + (Int.toNat x.fst.Ring))).x fun (y1 : R_f19) =>
 (.ite (!y1)
 (.call con_f1o (x.snd.snd.rings.get ((0 : Nat) + (Int.toNat x.fst.Ring))).x fun (y2 : R_f1o) =>
 (.need ((true && true) && (((Nat.beq x.snd.snd.rings.n x.snd.snd.rings.n) && (Nat.blt ((0 : Nat) + (Int.toNat x.fst.Ring)) x.snd.snd.rings.n)) && (!(x.snd.snd.rings.get ((0 : Nat) + (Int.toNat x.fst.Ring))).nil))) <|
 (.side (((fun v : Nat → V => v = v) (fun i3 => (cond (Nat.beq i3 ((0 : Nat) + (Int.toNat x.fst.Ring))) (V.ptr (Id.loc 15 0) List.nil) (V.obox (x.snd.snd.rings.get i3).nil (e_TRr (x.snd.snd.rings.get i3).x))))) ∧ (((fun v : V => v = v) (e_TRr (x.snd.snd.rings.get ((0 : Nat) + (Int.toNat x.fst.Ring))).x)) ∧ ((fun v : V => v = v) (V.obox (x.snd.snd.rings.get ((0 : Nat) + (Int.toNat x.fst.Ring))).nil (e_TRr (x.snd.snd.rings.get ((0 : Nat) + (Int.toNat x.fst.Ring))).x))))) <|
 (.need ((true && true) && (Nat.beq x.snd.snd.rings.n x.snd.snd.rings.n)) <|
 (.ret ((ieq x.fst.Ticket y2), x.snd.snd))))))
 (.need ((true && true) && (((Nat.beq x.snd.snd.rings.n x.snd.snd.rings.n) && (Nat.blt ((0 : Nat) + (Int.toNat x.fst.Ring)) x.snd.snd.rings.n)) && (!(x.snd.snd.rings.get ((0 : Nat) + (Int.toNat x.fst.Ring))).nil))) <|
 (.side (((fun v : Nat → V => v = v) (fun i2 => (cond (Nat.beq i2 ((0 : Nat) + (Int.toNat x.fst.Ring))) (V.ptr (Id.loc 15 0) List.nil) (V.obox (x.snd.snd.rings.get i2).nil (e_TRr (x.snd.snd.rings.get i2).x))))) ∧ (((fun v : V => v = v) (e_TRr (x.snd.snd.rings.get ((0 : Nat) + (Int.toNat x.fst.Ring))).x)) ∧ ((fun v : V => v = v) (V.obox (x.snd.snd.rings.get ((0 : Nat) + (Int.toNat x.fst.Ring))).nil (e_TRr (x.snd.snd.rings.get ((0 : Nat) + (Int.toNat x.fst.Ring))).x))))) <|
 (.need ((true && true) && (Nat.beq x.snd.snd.rings.n x.snd.snd.rings.n)) <|
 (.ret (false, x.snd.snd)))))))
 (.ite (ieq x.fst.Kind 2)
 (.call con_f1w (x.fst.Ticket, (x.snd.snd.rings.get ((0 : Nat) + (Int.toNat x.fst.Ring))).x) fun (y1 : R_f1w) =>
 (.need ((true && true) && (((Nat.beq x.snd.snd.rings.n x.snd.snd.rings.n) && (Nat.blt ((0 : Nat) + (Int.toNat x.fst.Ring)) x.snd.snd.rings.n)) && (!(x.snd.snd.rings.get ((0 : Nat) + (Int.toNat x.fst.Ring))).nil))) <|
 (.side (((fun v : Nat → V => v = v) (fun i2 => (cond (Nat.beq i2 ((0 : Nat) + (Int.toNat x.fst.Ring))) (V.ptr (Id.loc 15 0) List.nil) (V.obox (x.snd.snd.rings.get i2).nil (e_TRr (x.snd.snd.rings.get i2).x))))) ∧ (((fun v : V => v = v) (e_TRr (x.snd.snd.rings.get ((0 : Nat) + (Int.toNat x.fst.Ring))).x)) ∧ ((fun v : V => v = v) (V.obox (x.snd.snd.rings.get ((0 : Nat) + (Int.toNat x.fst.Ring))).nil (e_TRr (x.snd.snd.rings.get ((0 : Nat) + (Int.toNat x.fst.Ring))).x))))) <|
 (.need ((true && true) && (Nat.beq x.snd.snd.rings.n x.snd.snd.rings.n)) <|
 (.ret (y1, x.snd.snd))))))
 (.ite (ieq x.fst.Kind 3)
 (.call con_f15 (x.snd.fst.Reader, (x.snd.snd.rings.get ((0 : Nat) + (Int.toNat x.fst.Ring))).x) fun (y1 : R_f15) =>
 (.ite (!y1)
 (.call con_fm (x.snd.fst.Reader, (x.snd.snd.rings.get ((0 : Nat) + (Int.toNat x.fst.Ring))).x) fun (y2 : R_fm) =>
 (.need ((true && true) && (((Nat.beq x.snd.snd.rings.n x.snd.snd.rings.n) && (Nat.blt ((0 : Nat) + (Int.toNat x.fst.Ring)) x.snd.snd.rings.n)) && (!(x.snd.snd.rings.get ((0 : Nat) + (Int.toNat x.fst.Ring))).nil))) <|
 (.side (((fun v : Nat → V => v = v) (fun i3 => (cond (Nat.beq i3 ((0 : Nat) + (Int.toNat x.fst.Ring))) (V.ptr (Id.loc 15 0) List.nil) (V.obox (x.snd.snd.rings.get i3).nil (e_TRr (x.snd.snd.rings.get i3).x))))) ∧ (((fun v : V => v = v) (e_TRr (x.snd.snd.rings.get ((0 : Nat) + (Int.toNat x.fst.Ring))).x)) ∧ ((fun v : V => v = v) (V.obox (x.snd.snd.rings.get ((0 : Nat) + (Int.toNat x.fst.Ring))).nil (e_TRr (x.snd.snd.rings.get ((0 : Nat) + (Int.toNat x.fst.Ring))).x))))) <|
 (.need ((true && true) && (Nat.beq x.snd.snd.rings.n x.snd.snd.rings.n)) <|
 (.ret ((ieq x.fst.Ticket y2), x.snd.snd))))))
 (.need ((true && true) && (((Nat.beq x.snd.snd.rings.n x.snd.snd.rings.n) && (Nat.blt ((0 : Nat) + (Int.toNat x.fst.Ring)) x.snd.snd.rings.n)) && (!(x.snd.snd.rings.get ((0 : Nat) + (Int.toNat x.fst.Ring))).nil))) <|
 (.side (((fun v : Nat → V => v = v) (fun i2 => (cond (Nat.beq i2 ((0 : Nat) + (Int.toNat x.fst.Ring))) (V.ptr (Id.loc 15 0) List.nil) (V.obox (x.snd.snd.rings.get i2).nil (e_TRr (x.snd.snd.rings.get i2).x))))) ∧ (((fun v : V => v = v) (e_TRr (x.snd.snd.rings.get ((0 : Nat) + (Int.toNat x.fst.Ring))).x)) ∧ ((fun v : V => v = v) (V.obox (x.snd.snd.rings.get ((0 : Nat) + (Int.toNat x.fst.Ring))).nil (e_TRr (x.snd.snd.rings.get ((0 : Nat) + (Int.toNat x.fst.Ring))).x))))) <|
 (.need ((true && true) && (Nat.beq x.snd.snd.rings.n x.snd.snd.rings.n)) <|
 (.ret (false, x.snd.snd)))))))
 (.ite (ieq x.fst.Kind 4)
 (.call con_f23 (x.snd.fst.Reader, (x.fst.Ticket, (x.snd.snd.rings.get ((0 : Nat) + (Int.toNat x.fst.Ring))).x)) fun (y1 : R_f23) =>
 (.need ((true && true) && (((Nat.beq x.snd.snd.rings.n x.snd.snd.rings.n) && (Nat.blt ((0 : Nat) + (Int.toNat x.fst.Ring)) x.snd.snd.rings.n)) && (!(x.snd.snd.rings.get ((0 : Nat) + (Int.toNat x.fst.Ring))).nil))) <|
 (.side (((fun v : Nat → V => v = v) (fun i2 => (cond (Nat.beq i2 ((0 : Nat) + (Int.toNat x.fst.Ring))) (V.ptr (Id.loc 15 0) List.nil) (V.obox (x.snd.snd.rings.get i2).nil (e_TRr (x.snd.snd.rings.get i2).x))))) ∧ (((fun v : V => v = v) (e_TRr (x.snd.snd.rings.get ((0 : Nat) + (Int.toNat x.fst.Ring))).x)) ∧ ((fun v : V => v = v) (V.obox (x.snd.snd.rings.get ((0 : Nat) + (Int.toNat x.fst.Ring))).nil (e_TRr (x.snd.snd.rings.get ((0 : Nat) + (Int.toNat x.fst.Ring))).x))))) <|
 (.need ((true && true) && (Nat.beq x.snd.snd.rings.n x.snd.snd.rings.n)) <|
 (.ret (y1, x.snd.snd))))))
 (.call con_f1o (x.snd.snd.rings.get ((0 : Nat) + (Int.toNat x.fst.Ring))).x fun (y1 : R_f1o) =>
 (.need ((true && true) && (((Nat.beq x.snd.snd.rings.n x.snd.snd.rings.n) && (Nat.blt ((0 : Nat) + (Int.toNat x.fst.Ring)) x.snd.snd.rings.n)) && (!(x.snd.snd.rings.get ((0 : Nat) + (Int.toNat x.fst.Ring))).nil))) <|
 (.side (((fun v : Nat → V => v = v) (fun i2 => (cond (Nat.beq i2 ((0 : Nat) + (Int.toNat x.fst.Ring))) (V.ptr (Id.loc 15 0) List.nil) (V.obox (x.snd.snd.rings.get i2).nil (e_TRr (x.snd.snd.rings.get i2).x))))) ∧ (((fun v : V => v = v) (e_TRr (x.snd.snd.rings.get ((0 : Nat) + (Int.toNat x.fst.Ring))).x)) ∧ ((fun v : V => v = v) (V.obox (x.snd.snd.rings.get ((0 : Nat) + (Int.toNat x.fst.Ring))).nil (e_TRr (x.snd.snd.rings.get ((0 : Nat) + (Int.toNat x.fst.Ring))).x))))) <|
 (.need ((true && true) && (Nat.beq x.snd.snd.rings.n x.snd.snd.rings.n)) <|
 (.ret ((ieq x.fst.Ticket y1), x.snd.snd))))))))))))
theorem sd_f10 (x : X_f10) : (tt_f10 x).Sides :=
  (TT.sN (TT.sN (TT.sI (TT.sC fun _ => (TT.sI (TT.sC fun _ => (TT.sN (TT.sS ⟨rfl, ⟨rfl, rfl⟩⟩ (TT.sN TT.sR)))) (TT.sN (TT.sS ⟨rfl, ⟨rfl, rfl⟩⟩ (TT.sN TT.sR))))) (TT.sI (TT.sC fun _ => (TT.sN (TT.sS ⟨rfl, ⟨rfl, rfl⟩⟩ (TT.sN TT.sR)))) (TT.sI (TT.sC fun _ => (TT.sI (TT.sC fun _ => (TT.sN (TT.sS ⟨rfl, ⟨rfl, rfl⟩⟩ (TT.sN TT.sR)))) (TT.sN (TT.sS ⟨rfl, ⟨rfl, rfl⟩⟩ (TT.sN TT.sR))))) (TT.sI (TT.sC fun _ => (TT.sN (TT.sS ⟨rfl, ⟨rfl, rfl⟩⟩ (TT.sN TT.sR)))) (TT.sC fun _ => (TT.sN (TT.sS ⟨rfl, ⟨rfl, rfl⟩⟩ (TT.sN TT.sR))))))))))
theorem roT_f10 (x : X_f10) : TT.Ro p_f10 (w_f10 x) (tt_f10 x) :=
  (TT.rN (TT.rN (TT.rI (TT.rC fun _ => (TT.rI (TT.rC fun _ => (TT.rN (TT.rS (TT.rN (TT.rR rfl))))) (TT.rN (TT.rS (TT.rN (TT.rR rfl)))))) (TT.rI (TT.rC fun _ => (TT.rN (TT.rS (TT.rN (TT.rR rfl))))) (TT.rI (TT.rC fun _ => (TT.rI (TT.rC fun _ => (TT.rN (TT.rS (TT.rN (TT.rR rfl))))) (TT.rN (TT.rS (TT.rN (TT.rR rfl)))))) (TT.rI (TT.rC fun _ => (TT.rN (TT.rS (TT.rN (TT.rR rfl))))) (TT.rC fun _ => (TT.rN (TT.rS (TT.rN (TT.rR rfl)))))))))))
noncomputable def D_f10 : Dyn X_f10 R_f10 := .ro (.of tt_f10) (fun y => (y.1)) (fun y x => (y, x.2.2)) fun x y h => congrArg (fun o => (y.1, o)) (roT_f10 x y h)
noncomputable def con_f10 : Con Tryz.prog :=
  mkConP 64 J_f10 S_f10 (.of tt_f10) D_f10 (fun y x => (y, x.2.2)) (fun _ _ h => h) (fun y => V.bool y) 3 1 [.any, .any, .any] (by kernel_rfl) (by kernel_rfl) (by kernel_rfl) (lbk mxk lbn 4000 (fun x => by kernel_rfl) sd_f10) rfl rfl (fun _ => rfl) (by kernel_rfl) rfl (fun _ _ => rfl) (fun _ => rfl) (fun x => ⟨(nu_e_TFa : ∀ y, (e_TFa y).NoU) (x.2.2), trivial⟩)
abbrev X_f2a : Type := TEv
abbrev R_f2a : Type := Bool
noncomputable def J_f2a : Job Tryz.prog :=
  job Tryz.prog Tryz.f65 11 [(1, 3)] [] [] [] [.any] [] [] R_f2a [] fun y => [V.bool y]
noncomputable def S_f2a : LabS :=
  lab0 Tryz.f65 1 0 X_f2a (fun x => [e_TEv x]) fun l => (d_TEv (at_ l 0))
noncomputable def tt_f2a (x : X_f2a) : TT Tryz.prog R_f2a :=
 (.ite (ile x.Kind 4)
 (.ret true)
 (.ret (ieq x.Kind 13)))
theorem sd_f2a (x : X_f2a) : (tt_f2a x).Sides :=
  (TT.sI TT.sR TT.sR)
noncomputable def D_f2a : Dyn X_f2a R_f2a := .of tt_f2a
noncomputable def con_f2a : Con Tryz.prog :=
  mkCon 65 J_f2a S_f2a D_f2a D_f2a (fun _ _ h => h) 1 0 [.any] (by kernel_rfl) (by kernel_rfl) (by kernel_rfl) (lbk mxk lbn 4000 (fun x => by kernel_rfl) sd_f2a) rfl rfl (fun _ => rfl) (by kernel_rfl) rfl (fun _ => rfl) (fun x y _ => by kernel_rfl)
abbrev X_fc : Type := TEv × TFa
abbrev R_fc : Type := Bool
abbrev RR_fc : Type := Bool × TFa
abbrev p_fc (y : RR_fc) : TFa := y.2
abbrev w_fc (x : X_fc) : TFa := x.2
noncomputable def J_fc : Job Tryz.prog :=
  job Tryz.prog Tryz.f21 103 [(3, 3)] [(8, [.back (.loc 30 0), .back (.loc 26 0)]), (9, [.back (.loc 30 0), .back (.loc 26 0)]), (10, [.back (.loc 47 0), .back (.loc 43 0), .back (.loc 30 0), .back (.loc 26 0)]), (11, [.back (.loc 47 0), .back (.loc 43 0), .back (.loc 30 0), .back (.loc 26 0)]), (12, [.back (.loc 47 0), .back (.loc 43 0), .back (.loc 30 0), .back (.loc 26 0)]), (13, [.back (.loc 47 0), .back (.loc 43 0), .back (.loc 30 0), .back (.loc 26 0)]), (14, [.back (.loc 47 0), .back (.loc 43 0), .back (.loc 30 0), .back (.loc 26 0)]), (15, [.back (.loc 47 0), .back (.loc 43 0), .back (.loc 30 0), .back (.loc 26 0)]), (16, [.back (.loc 90 0), .back (.loc 86 0), .back (.loc 47 0), .back (.loc 43 0), .back (.loc 30 0), .back (.loc 26 0)])] [] [.back (.loc 90 0), .back (.loc 86 0), .back (.loc 47 0), .back (.loc 43 0), .back (.loc 30 0), .back (.loc 26 0)] [.any] [sh_TFa] [con_fz, con_f11, con_f10, con_fu, con_f2a, con_f14] RR_fc [] fun y => [V.bool y.1, e_TFa y.2]
noncomputable def S_fc : LabS :=
  lab0 Tryz.f21 2 1 X_fc (fun x => [(V.ptr (.par 0) []), e_TEv x.1, e_TFa x.2]) fun l => (d_TEv (at_ l 1), d_TFa (at_ l 2))
structure X_fc_16 where
  e_3 : TEv
  o_0 : TFa
  m_5 : TAk
noncomputable def S_fc_16 : LabS :=
  labAt Tryz.f21 16 [(0, .any), (3, .any), (5, .any)] [sh_TFa] [(.loc 5 0, .any)] X_fc_16 (fun x => [(V.ptr (.par 0) []), (eVp e_TEv) x.e_3, (V.ptr (.loc 5 0) []), e_TFa x.o_0, e_TAk x.m_5]) fun l => ⟨(dVp d_TEv) (at_ l 1), d_TFa (at_ l 3), d_TAk (at_ l 4)⟩
abbrev w_fc_16 (x : X_fc_16) : TFa := (x.o_0)
noncomputable def tt_fc_16 (x : X_fc_16) : TT Tryz.prog RR_fc :=
 (.call con_f2a x.e_3 fun (y1 : R_f2a) =>
 (.ite (!y1)
 (.ret (true, x.o_0))
 (.call con_f10 (x.e_3, (x.m_5, x.o_0)) fun (y2 : R_f10) =>
 (.ret (y2, x.o_0)))))
theorem sd_fc_16 (x : X_fc_16) : (tt_fc_16 x).Sides :=
  (TT.sC fun _ => (TT.sI TT.sR (TT.sC fun _ => TT.sR)))
theorem roT_fc_16 (x : X_fc_16) : TT.Ro p_fc (w_fc_16 x) (tt_fc_16 x) :=
  (TT.rC fun _ => (TT.rI (TT.rR rfl) (TT.rC fun _ => (TT.rR rfl))))
noncomputable def D_fc_16 : Dyn X_fc_16 RR_fc := .of tt_fc_16
theorem ok_fc_16 : LabOK J_fc S_fc_16 D_fc_16 :=
  lbk mxk lbn 4000 (fun x => by kernel_rfl) sd_fc_16
theorem ro_fc_16 : ∀ x y, D_fc_16.rel x y → p_fc y = w_fc_16 x :=
  roT_fc_16 
noncomputable def tt_fc (x : X_fc) : TT Tryz.prog RR_fc :=
 (.call con_fu (x.fst, x.snd) fun (y1 : R_fu) =>
 (.ite (!(ieq y1 0))
 (.ret (false, x.snd))
 (.call con_fz (x.fst.Thread, x.snd) fun (y2 : R_fz) =>
 (.ite (ieq x.fst.Kind 5)
 (.call con_f11 (y2, x.snd) fun (y3 : R_f11) =>
 (.ite y3
 (.need (inb x.fst.Ring x.snd.rings.n) <|
 (.need (((Nat.beq x.snd.rings.n x.snd.rings.n) && true) && (!(x.snd.rings.get ((0 : Nat) + (Int.toNat x.fst.Ring))).nil)) <|
 (.call con_f14 (x.snd.rings.get ((0 : Nat) + (Int.toNat x.fst.Ring))).x fun (y4 : R_f14) =>
 (.need ((true && true) && (((Nat.beq x.snd.rings.n x.snd.rings.n) && (Nat.blt ((0 : Nat) + (Int.toNat x.fst.Ring)) x.snd.rings.n)) && (!(x.snd.rings.get ((0 : Nat) + (Int.toNat x.fst.Ring))).nil))) <|
 (.side (((fun v : Nat → V => v = v) (fun i5 => (cond (Nat.beq i5 ((0 : Nat) + (Int.toNat x.fst.Ring))) (V.ptr (Id.loc 30 0) List.nil) (V.obox (x.snd.rings.get i5).nil (e_TRr (x.snd.rings.get i5).x))))) ∧ (((fun v : V => v = v) (e_TRr (x.snd.rings.get ((0 : Nat) + (Int.toNat x.fst.Ring))).x)) ∧ ((fun v : V => v = v) (V.obox (x.snd.rings.get ((0 : Nat) + (Int.toNat x.fst.Ring))).nil (e_TRr (x.snd.rings.get ((0 : Nat) + (Int.toNat x.fst.Ring))).x))))) <|
 (.need ((true && true) && (Nat.beq x.snd.rings.n x.snd.rings.n)) <|
 (.ret ((!y4), x.snd))))))))
 (.ret (false, x.snd))))
 (.ite (ieq x.fst.Kind 7)
 (.call con_f11 (y2, x.snd) fun (y3 : R_f11) =>
 (.ite y3
 (.need (inb x.fst.Ring x.snd.rings.n) <|
 (.need (((Nat.beq x.snd.rings.n x.snd.rings.n) && true) && (!(x.snd.rings.get ((0 : Nat) + (Int.toNat x.fst.Ring))).nil)) <|
 (.call con_f14 (x.snd.rings.get ((0 : Nat) + (Int.toNat x.fst.Ring))).x fun (y4 : R_f14) =>
 (.need ((true && true) && (((Nat.beq x.snd.rings.n x.snd.rings.n) && (Nat.blt ((0 : Nat) + (Int.toNat x.fst.Ring)) x.snd.rings.n)) && (!(x.snd.rings.get ((0 : Nat) + (Int.toNat x.fst.Ring))).nil))) <|
 (.side (((fun v : Nat → V => v = v) (fun i5 => (cond (Nat.beq i5 ((0 : Nat) + (Int.toNat x.fst.Ring))) (V.ptr (Id.loc 30 0) List.nil) (V.obox (x.snd.rings.get i5).nil (e_TRr (x.snd.rings.get i5).x))))) ∧ (((fun v : V => v = v) (e_TRr (x.snd.rings.get ((0 : Nat) + (Int.toNat x.fst.Ring))).x)) ∧ ((fun v : V => v = v) (V.obox (x.snd.rings.get ((0 : Nat) + (Int.toNat x.fst.Ring))).nil (e_TRr (x.snd.rings.get ((0 : Nat) + (Int.toNat x.fst.Ring))).x))))) <|
 (.need ((true && true) && (Nat.beq x.snd.rings.n x.snd.rings.n)) <|
 (.ret ((!y4), x.snd))))))))
 (.ret (false, x.snd))))
 (.ite (ieq x.fst.Kind 6)
 (.call con_f11 (y2, x.snd) fun (y3 : R_f11) =>
 (.ite y3
 (.need (inb x.fst.Ring x.snd.rings.n) <|
 (.need (((Nat.beq x.snd.rings.n x.snd.rings.n) && true) && (!(x.snd.rings.get ((0 : Nat) + (Int.toNat x.fst.Ring))).nil)) <|
 (.call con_f14 (x.snd.rings.get ((0 : Nat) + (Int.toNat x.fst.Ring))).x fun (y4 : R_f14) =>
 (.need ((true && true) && (((Nat.beq x.snd.rings.n x.snd.rings.n) && (Nat.blt ((0 : Nat) + (Int.toNat x.fst.Ring)) x.snd.rings.n)) && (!(x.snd.rings.get ((0 : Nat) + (Int.toNat x.fst.Ring))).nil))) <|
 (.side (((fun v : Nat → V => v = v) (fun i5 => (cond (Nat.beq i5 ((0 : Nat) + (Int.toNat x.fst.Ring))) (V.ptr (Id.loc 47 0) List.nil) (V.obox (x.snd.rings.get i5).nil (e_TRr (x.snd.rings.get i5).x))))) ∧ (((fun v : V => v = v) (e_TRr (x.snd.rings.get ((0 : Nat) + (Int.toNat x.fst.Ring))).x)) ∧ ((fun v : V => v = v) (V.obox (x.snd.rings.get ((0 : Nat) + (Int.toNat x.fst.Ring))).nil (e_TRr (x.snd.rings.get ((0 : Nat) + (Int.toNat x.fst.Ring))).x))))) <|
 (.need ((true && true) && (Nat.beq x.snd.rings.n x.snd.rings.n)) <|
 (.ret (y4, x.snd))))))))
 (.ret (false, x.snd))))
 (.ite (ieq x.fst.Kind 8)
 (.ite (ile x.snd.now x.fst.Value)
 (.ret ((ilt (IntKind.u64.wrap (x.fst.Value - x.snd.now)) 1048576), x.snd))
 (.ret (false, x.snd)))
 (.ite (ieq x.fst.Kind 10)
 (.ret ((!x.snd.ended), x.snd))
 (.ite (ieq x.fst.Kind 1)
 (.call con_f10 (x.fst, (y2, x.snd)) fun (y3 : R_f10) =>
 (.ite y3
 (.need (inb x.fst.Ring x.snd.rings.n) <|
 (.need (((Nat.beq x.snd.rings.n x.snd.rings.n) && true) && (!(x.snd.rings.get ((0 : Nat) + (Int.toNat x.fst.Ring))).nil)) <|
 (.call con_f14 (x.snd.rings.get ((0 : Nat) + (Int.toNat x.fst.Ring))).x fun (y4 : R_f14) =>
 (.need ((true && true) && (((Nat.beq x.snd.rings.n x.snd.rings.n) && (Nat.blt ((0 : Nat) + (Int.toNat x.fst.Ring)) x.snd.rings.n)) && (!(x.snd.rings.get ((0 : Nat) + (Int.toNat x.fst.Ring))).nil))) <|
 (.side (((fun v : Nat → V => v = v) (fun i5 => (cond (Nat.beq i5 ((0 : Nat) + (Int.toNat x.fst.Ring))) (V.ptr (Id.loc 90 0) List.nil) (V.obox (x.snd.rings.get i5).nil (e_TRr (x.snd.rings.get i5).x))))) ∧ (((fun v : V => v = v) (e_TRr (x.snd.rings.get ((0 : Nat) + (Int.toNat x.fst.Ring))).x)) ∧ ((fun v : V => v = v) (V.obox (x.snd.rings.get ((0 : Nat) + (Int.toNat x.fst.Ring))).nil (e_TRr (x.snd.rings.get ((0 : Nat) + (Int.toNat x.fst.Ring))).x))))) <|
 (.need ((true && true) && (Nat.beq x.snd.rings.n x.snd.rings.n)) <|
 (.ret ((!y4), x.snd))))))))
 (.ret (false, x.snd))))
 (.jump S_fc_16 D_fc_16 (X_fc_16.mk x.fst x.snd y2)))))))))))
theorem sd_fc (x : X_fc) : (tt_fc x).Sides :=
  (TT.sC fun _ => (TT.sI TT.sR (TT.sC fun _ => (TT.sI (TT.sC fun _ => (TT.sI (TT.sN (TT.sN (TT.sC fun _ => (TT.sN (TT.sS ⟨rfl, ⟨rfl, rfl⟩⟩ (TT.sN TT.sR)))))) TT.sR)) (TT.sI (TT.sC fun _ => (TT.sI (TT.sN (TT.sN (TT.sC fun _ => (TT.sN (TT.sS ⟨rfl, ⟨rfl, rfl⟩⟩ (TT.sN TT.sR)))))) TT.sR)) (TT.sI (TT.sC fun _ => (TT.sI (TT.sN (TT.sN (TT.sC fun _ => (TT.sN (TT.sS ⟨rfl, ⟨rfl, rfl⟩⟩ (TT.sN TT.sR)))))) TT.sR)) (TT.sI (TT.sI TT.sR TT.sR) (TT.sI TT.sR (TT.sI (TT.sC fun _ => (TT.sI (TT.sN (TT.sN (TT.sC fun _ => (TT.sN (TT.sS ⟨rfl, ⟨rfl, rfl⟩⟩ (TT.sN TT.sR)))))) TT.sR)) TT.sJ)))))))))
theorem roT_fc (x : X_fc) : TT.Ro p_fc (w_fc x) (tt_fc x) :=
  (TT.rC fun _ => (TT.rI (TT.rR rfl) (TT.rC fun _ => (TT.rI (TT.rC fun _ => (TT.rI (TT.rN (TT.rN (TT.rC fun _ => (TT.rN (TT.rS (TT.rN (TT.rR rfl))))))) (TT.rR rfl))) (TT.rI (TT.rC fun _ => (TT.rI (TT.rN (TT.rN (TT.rC fun _ => (TT.rN (TT.rS (TT.rN (TT.rR rfl))))))) (TT.rR rfl))) (TT.rI (TT.rC fun _ => (TT.rI (TT.rN (TT.rN (TT.rC fun _ => (TT.rN (TT.rS (TT.rN (TT.rR rfl))))))) (TT.rR rfl))) (TT.rI (TT.rI (TT.rR rfl) (TT.rR rfl)) (TT.rI (TT.rR rfl) (TT.rI (TT.rC fun _ => (TT.rI (TT.rN (TT.rN (TT.rC fun _ => (TT.rN (TT.rS (TT.rN (TT.rR rfl))))))) (TT.rR rfl))) (TT.rJ (ro_fc_16 _)))))))))))
noncomputable def D_fc : Dyn X_fc R_fc := .ro (.of tt_fc) (fun y => (y.1)) (fun y x => (y, x.2)) fun x y h => congrArg (fun o => (y.1, o)) (roT_fc x y h)
noncomputable def con_fc : Con Tryz.prog :=
  mkConP 21 J_fc S_fc (.of tt_fc) D_fc (fun y x => (y, x.2)) (fun _ _ h => h) (fun y => V.bool y) 2 1 [.any, .any] (by kernel_rfl) (by kernel_rfl) (by kernel_rfl) (lbk mxk (lbc ok_fc_16 rfl lbn) 4000 (fun x => by kernel_rfl) sd_fc) rfl rfl (fun _ => rfl) (by kernel_rfl) rfl (fun _ _ => rfl) (fun _ => rfl) (fun x => ⟨(nu_e_TFa : ∀ y, (e_TFa y).NoU) (x.2), trivial⟩)
abbrev X_f2e : Type := TRr
abbrev R_f2e : Type := Int × Int × TRr
noncomputable def J_f2e : Job Tryz.prog :=
  job Tryz.prog Tryz.f36 30 [] [] [] [] [.any, .any] [sh_TRr] [con_f19] R_f2e [] fun y => [V.tup (V.cons ((V.int .u64) y.1) (V.cons ((V.int .i64) y.2.1) (V.unit))), e_TRr y.2.2]
noncomputable def S_f2e : LabS :=
  lab0 Tryz.f36 1 1 X_f2e (fun x => [(V.ptr (.par 0) []), e_TRr x]) fun l => (d_TRr (at_ l 1))
noncomputable def tt_f2e (x : X_f2e) : TT Tryz.prog R_f2e :=
 (.ite x.closed
 (.ret (0, (10, x)))
 (.call con_f19 x fun (y1 : R_f19) =>
 (.ite y1
 (.ret (0, (8, x)))
 (.ret ((IntKind.u64.wrap ((IntKind.u64.wrap (x.cursors.tail + 1)) - 1)), (0, (TRr.mk (TRc.mk (IntKind.u64.wrap (x.cursors.tail + 1)) x.cursors.heads) x.s x.most x.closed)))))))
theorem sd_f2e (x : X_f2e) : (tt_f2e x).Sides :=
  (TT.sI TT.sR (TT.sC fun _ => (TT.sI TT.sR TT.sR)))
noncomputable def D_f2e : Dyn X_f2e R_f2e := .of tt_f2e
noncomputable def con_f2e : Con Tryz.prog :=
  mkCon 36 J_f2e S_f2e D_f2e D_f2e (fun _ _ h => h) 1 1 [.any] (by kernel_rfl) (by kernel_rfl) (by kernel_rfl) (lbk mxk lbn 4000 (fun x => by kernel_rfl) sd_f2e) rfl rfl (fun _ => rfl) (by kernel_rfl) rfl (fun _ => rfl) (fun x y _ => by kernel_rfl)
abbrev X_fp : Type := (Ar TSo)
abbrev R_fp : Type := (Sl TSo)
abbrev RR_fp : Type := (Sl TSo) × (Ar TSo)
abbrev p_fp (y : RR_fp) : (Ar TSo) := y.2
abbrev w_fp (x : X_fp) : (Ar TSo) := x
noncomputable def J_fp : Job Tryz.prog :=
  job Tryz.prog Tryz.f145 8 [(6, 1)] [] [] [.shut 2] [hsl_TSo] [.any] [] RR_fp [] fun y => [esl_TSo y.1, (eAr 3 e_TSo) y.2]
noncomputable def S_fp : LabS :=
  lab0 Tryz.f145 1 1 X_fp (fun x => [(V.own (.par 0) [] 3 x.n 0 x.n), (eAr 3 e_TSo) x]) fun l => ((dAr d_TSo) (at_ l 1))
noncomputable def tt_fp (x : X_fp) : TT Tryz.prog RR_fp :=
 (.need (Nat.blt 0 x.n) <|
 (.need ((true && (Nat.beq x.n x.n)) && (room ((0 : Nat) + x.n) 24)) <|
 (.side (∀ i1 : Nat, ((i1 < x.n) → ((true && (true && (true && true))) = true))) <|
 (.ret ((Sl.mk (cond (Nat.beq x.n 0) false false) ((0 : Nat) + x.n) (fun i1 => (TSo.mk (cond (Nat.blt i1 0) (0 : Int) (x.get ((0 : Nat) + (i1 - 0))).Stamp) (cond (Nat.blt i1 0) (0 : Int) (x.get ((0 : Nat) + (i1 - 0))).Value) (cond (Nat.blt i1 0) (0 : Int) (x.get ((0 : Nat) + (i1 - 0))).Left)))), x)))))
theorem sd_fp (x : X_fp) : (tt_fp x).Sides :=
  (TT.sN (TT.sN (TT.sS (fun _ _ => rfl) TT.sR)))
theorem roT_fp (x : X_fp) : TT.Ro p_fp (w_fp x) (tt_fp x) :=
  (TT.rN (TT.rN (TT.rS (TT.rR rfl))))
noncomputable def D_fp : Dyn X_fp R_fp := .ro (.of tt_fp) (fun y => (y.1)) (fun y x => (y, x)) fun x y h => congrArg (fun o => (y.1, o)) (roT_fp x y h)
noncomputable def con_fp : Con Tryz.prog :=
  mkConP 145 J_fp S_fp (.of tt_fp) D_fp (fun y x => (y, x)) (fun _ _ h => h) (fun y => esl_TSo y) 1 1 [.any] (by kernel_rfl) (by kernel_rfl) (by kernel_rfl) (lbk mxk lbn 4000 (fun x => by kernel_rfl) sd_fp) rfl rfl (fun _ => rfl) (by kernel_rfl) rfl (fun _ _ => rfl) (fun _ => rfl) (fun x => ⟨(fun _ _ => (nu_e_TSo) _ : ∀ y, ((eAr 3 e_TSo) y).NoU) (x), trivial⟩)
abbrev X_f1r : Type := TSs
abbrev R_f1r : Type := (Sl TSo)
abbrev RR_f1r : Type := (Sl TSo) × TSs
abbrev p_f1r (y : RR_f1r) : TSs := y.2
abbrev w_f1r (x : X_f1r) : TSs := x
noncomputable def J_f1r : Job Tryz.prog :=
  job Tryz.prog Tryz.f96 10 [] [] [] [.back (.loc 8 0), .shut 2] [hsl_TSo] [sh_TSs] [con_fp] RR_f1r [] fun y => [esl_TSo y.1, e_TSs y.2]
noncomputable def S_f1r : LabS :=
  lab0 Tryz.f96 1 1 X_f1r (fun x => [(V.ptr (.par 0) []), e_TSs x]) fun l => (d_TSs (at_ l 1))
noncomputable def tt_f1r (x : X_f1r) : TT Tryz.prog RR_f1r :=
 (.call con_fp (Ar.mk x.l.n x.l.get) fun (y1 : R_fp) =>
 (.need ((true && true) && (Nat.beq x.l.n x.l.n)) <|
 (.ret (y1, x))))
theorem sd_f1r (x : X_f1r) : (tt_f1r x).Sides :=
  (TT.sC fun _ => (TT.sN TT.sR))
theorem roT_f1r (x : X_f1r) : TT.Ro p_f1r (w_f1r x) (tt_f1r x) :=
  (TT.rC fun _ => (TT.rN (TT.rR rfl)))
noncomputable def D_f1r : Dyn X_f1r R_f1r := .ro (.of tt_f1r) (fun y => (y.1)) (fun y x => (y, x)) fun x y h => congrArg (fun o => (y.1, o)) (roT_f1r x y h)
noncomputable def con_f1r : Con Tryz.prog :=
  mkConP 96 J_f1r S_f1r (.of tt_f1r) D_f1r (fun y x => (y, x)) (fun _ _ h => h) (fun y => esl_TSo y) 1 1 [.any] (by kernel_rfl) (by kernel_rfl) (by kernel_rfl) (lbk mxk lbn 4000 (fun x => by kernel_rfl) sd_f1r) rfl rfl (fun _ => rfl) (by kernel_rfl) rfl (fun _ _ => rfl) (fun _ => rfl) (fun x => ⟨(nu_e_TSs : ∀ y, (e_TSs y).NoU) (x), trivial⟩)
abbrev X_fw : Type := (Ar Int)
abbrev R_fw : Type := (Sl Int)
abbrev RR_fw : Type := (Sl Int) × (Ar Int)
abbrev p_fw (y : RR_fw) : (Ar Int) := y.2
abbrev w_fw (x : X_fw) : (Ar Int) := x
noncomputable def J_fw : Job Tryz.prog :=
  job Tryz.prog Tryz.f53 8 [(6, 1)] [] [] [.shut 2] [hsl_u64] [.any] [] RR_fw [] fun y => [esl_u64 y.1, (eAr 1 (V.int .u64)) y.2]
noncomputable def S_fw : LabS :=
  lab0 Tryz.f53 1 1 X_fw (fun x => [(V.own (.par 0) [] 1 x.n 0 x.n), (eAr 1 (V.int .u64)) x]) fun l => ((dAr dI) (at_ l 1))
noncomputable def tt_fw (x : X_fw) : TT Tryz.prog RR_fw :=
 (.need (Nat.blt 0 x.n) <|
 (.need ((true && (Nat.beq x.n x.n)) && (room ((0 : Nat) + x.n) 8)) <|
 (.side (∀ i1 : Nat, ((i1 < x.n) → (true = true))) <|
 (.ret ((Sl.mk (cond (Nat.beq x.n 0) false false) ((0 : Nat) + x.n) (fun i1 => (cond (Nat.blt i1 0) (0 : Int) (x.get ((0 : Nat) + (i1 - 0)))))), x)))))
theorem sd_fw (x : X_fw) : (tt_fw x).Sides :=
  (TT.sN (TT.sN (TT.sS (fun _ _ => rfl) TT.sR)))
theorem roT_fw (x : X_fw) : TT.Ro p_fw (w_fw x) (tt_fw x) :=
  (TT.rN (TT.rN (TT.rS (TT.rR rfl))))
noncomputable def D_fw : Dyn X_fw R_fw := .ro (.of tt_fw) (fun y => (y.1)) (fun y x => (y, x)) fun x y h => congrArg (fun o => (y.1, o)) (roT_fw x y h)
noncomputable def con_fw : Con Tryz.prog :=
  mkConP 53 J_fw S_fw (.of tt_fw) D_fw (fun y x => (y, x)) (fun _ _ h => h) (fun y => esl_u64 y) 1 1 [.any] (by kernel_rfl) (by kernel_rfl) (by kernel_rfl) (lbk mxk lbn 4000 (fun x => by kernel_rfl) sd_fw) rfl rfl (fun _ => rfl) (by kernel_rfl) rfl (fun _ _ => rfl) (fun _ => rfl) (fun x => ⟨(fun _ _ => trivial : ∀ y, ((eAr 1 (V.int .u64)) y).NoU) (x), trivial⟩)
structure TRs where
  Tail : Int
  Heads : (Sl Int)
  Closed : Bool
  Slots : (Sl TSo)
def d_TRs (v : V) : TRs :=
  ⟨dI (fd v 0), dsl_u64 (fd v 1), dB (fd v 2), dsl_TSo (fd v 3)⟩
def e_TRs (x : TRs) : V :=
  V.cons ((V.int .u64) x.Tail) (V.cons (esl_u64 x.Heads) (V.cons (V.bool x.Closed) (V.cons (esl_TSo x.Slots) (V.unit))))
theorem nu_e_TRs (x : TRs) : (e_TRs x).NoU := ⟨trivial, trivial, trivial, trivial, trivial⟩
def sh_TRs : Sh := (.cons .any (.cons hsl_u64 (.cons .any (.cons hsl_TSo .any))))
abbrev X_f18 : Type := TRr
abbrev R_f18 : Type := TRs
abbrev RR_f18 : Type := TRs × TRr
abbrev p_f18 (y : RR_f18) : TRr := y.2
abbrev w_f18 (x : X_f18) : TRr := x
noncomputable def J_f18 : Job Tryz.prog :=
  job Tryz.prog Tryz.f54 27 [] [] [(3, [.opn (.par 0) [.fld 0 0, .fld 1 1] 15, .opn (.par 0) [.fld 1 2] 24])] [.back (.loc 24 0), .back (.loc 15 0)] [sh_TRs] [sh_TRr] [con_fw, con_f1r] RR_f18 [(0, [⟨.loc 15 0, .par 0, [.fld 0 0, .fld 1 1], none, none⟩, ⟨.loc 24 0, .par 0, [.fld 1 2], none, none⟩])] fun y => [e_TRs y.1, e_TRr y.2]
noncomputable def S_f18 : LabS :=
  lab0 Tryz.f54 1 1 X_f18 (fun x => [(V.ptr (.par 0) []), e_TRr x]) fun l => (d_TRr (at_ l 1))
noncomputable def tt_f18 (x : X_f18) : TT Tryz.prog RR_f18 :=
 (.need ((true && true) && (!x.s.nil)) <|
 (.call con_fw (Ar.mk x.cursors.heads.n x.cursors.heads.get) fun (y1 : R_fw) =>
 (.call con_f1r x.s.x fun (y2 : R_f1r) =>
 (.need ((true && true) && (!x.s.nil)) <|
 (.side ((fun v : V => v = v) (e_TSs x.s.x)) <|
 (.need ((true && true) && (Nat.beq x.cursors.heads.n x.cursors.heads.n)) <|
 (.ret ((TRs.mk x.cursors.tail y1 x.closed y2), x))))))))
theorem sd_f18 (x : X_f18) : (tt_f18 x).Sides :=
  (TT.sN (TT.sC fun _ => (TT.sC fun _ => (TT.sN (TT.sS rfl (TT.sN TT.sR))))))
theorem roT_f18 (x : X_f18) : TT.Ro p_f18 (w_f18 x) (tt_f18 x) :=
  (TT.rN (TT.rC fun _ => (TT.rC fun _ => (TT.rN (TT.rS (TT.rN (TT.rR rfl)))))))
noncomputable def D_f18 : Dyn X_f18 R_f18 := .ro (.of tt_f18) (fun y => (y.1)) (fun y x => (y, x)) fun x y h => congrArg (fun o => (y.1, o)) (roT_f18 x y h)
noncomputable def con_f18 : Con Tryz.prog :=
  mkConP 54 J_f18 S_f18 (.of tt_f18) D_f18 (fun y x => (y, x)) (fun _ _ h => h) (fun y => e_TRs y) 1 1 [.any] (by kernel_rfl) (by kernel_rfl) (by kernel_rfl) (lbk mxk lbn 4000 (fun x => by kernel_rfl) sd_f18) rfl rfl (fun _ => rfl) (by kernel_rfl) rfl (fun _ _ => rfl) (fun _ => rfl) (fun x => ⟨(nu_e_TRr : ∀ y, (e_TRr y).NoU) (x), trivial⟩)
abbrev X_f1p : Type := Int × Int × Int × TSo
abbrev R_f1p : Type := Bool
noncomputable def J_f1p : Job Tryz.prog :=
  job Tryz.prog Tryz.f169 45 [(7, 3)] [] [] [] [.any] [] [] R_f1p [] fun y => [V.bool y]
noncomputable def S_f1p : LabS :=
  lab0 Tryz.f169 4 0 X_f1p (fun x => [(V.int .i64) x.1, (V.int .i64) x.2.1, (V.int .i64) x.2.2.1, e_TSo x.2.2.2]) fun l => (dI (at_ l 0), dI (at_ l 1), dI (at_ l 2), d_TSo (at_ l 3))
structure X_f1p_3 where
  readers_2 : Int
  x_7 : TSo
noncomputable def S_f1p_3 : LabS :=
  labAt Tryz.f169 3 [(2, .any), (7, .any)] [] [] X_f1p_3 (fun x => [(V.int .i64) x.readers_2, (eVp e_TSo) x.x_7]) fun l => ⟨dI (at_ l 0), (dVp d_TSo) (at_ l 1)⟩
noncomputable def tt_f1p_3 (x : X_f1p_3) : TT Tryz.prog R_f1p :=
 (.ite (ieq (Int.tmod x.x_7.Stamp 2) 0)
 (.ite (ieq x.x_7.Value 0)
 (.ret (ieq x.x_7.Left 0))
 (.ret false))
 (.ite (ile 1 x.x_7.Left)
 (.need (ile 0 x.readers_2) <|
 (.ret (ilt x.x_7.Left (shl IntKind.i64 1 x.readers_2))))
 (.ret false)))
theorem sd_f1p_3 (x : X_f1p_3) : (tt_f1p_3 x).Sides :=
  (TT.sI (TT.sI TT.sR TT.sR) (TT.sI (TT.sN TT.sR) TT.sR))
noncomputable def D_f1p_3 : Dyn X_f1p_3 R_f1p := .of tt_f1p_3
theorem ok_f1p_3 : LabOK J_f1p S_f1p_3 D_f1p_3 :=
  lbk mxk lbn 4000 (fun x => by kernel_rfl) sd_f1p_3
noncomputable def tt_f1p (x : X_f1p) : TT Tryz.prog R_f1p :=
 (.ite (ile 9223372036854775808 x.snd.snd.snd.Stamp)
 (.ret false)
 (.need (!(ieq (IntKind.u64.wrap x.snd.fst) 0)) <|
 (.ite (!(ieq (Int.tmod (IntKind.u64.wrap (Int.tdiv x.snd.snd.snd.Stamp 2)) (IntKind.u64.wrap x.snd.fst)) (IntKind.u64.wrap x.fst)))
 (.ret false)
 (.jump S_f1p_3 D_f1p_3 (X_f1p_3.mk x.snd.snd.fst x.snd.snd.snd)))))
theorem sd_f1p (x : X_f1p) : (tt_f1p x).Sides :=
  (TT.sI TT.sR (TT.sN (TT.sI TT.sR TT.sJ)))
noncomputable def D_f1p : Dyn X_f1p R_f1p := .of tt_f1p
noncomputable def con_f1p : Con Tryz.prog :=
  mkCon 169 J_f1p S_f1p D_f1p D_f1p (fun _ _ h => h) 4 0 [.any, .any, .any, .any] (by kernel_rfl) (by kernel_rfl) (by kernel_rfl) (lbk mxk (lbc ok_f1p_3 rfl lbn) 4000 (fun x => by kernel_rfl) sd_f1p) rfl rfl (fun _ => rfl) (by kernel_rfl) rfl (fun _ => rfl) (fun x y _ => by kernel_rfl)
abbrev X_f1a : Type := (Sl TSo)
abbrev R_f1a : Type := (Sl TSo)
noncomputable def J_f1a : Job Tryz.prog :=
  job Tryz.prog Tryz.f145 8 [(5, 1), (6, 1)] [] [] [.shut 2] [hosl_TSo] [] [] R_f1a [] fun y => [eosl_TSo y]
noncomputable def S_f1a : LabS :=
  lab0 Tryz.f145 1 0 X_f1a (fun x => [esl_TSo x]) fun l => (dsl_TSo (at_ l 0))
noncomputable def tt_f1a (x : X_f1a) : TT Tryz.prog R_f1a :=
 (.ite x.nil
 (.ret (Sl.mk true 0 (fun _i1 => (TSo.mk 0 0 0))))
 (.need (true && (room ((0 : Nat) + x.n) 24)) <|
 (.ret (Sl.mk (cond (Nat.beq x.n 0) false false) ((0 : Nat) + x.n) (fun i1 => (TSo.mk (cond (Nat.blt i1 0) (0 : Int) (x.get (i1 - 0)).Stamp) (cond (Nat.blt i1 0) (0 : Int) (x.get (i1 - 0)).Value) (cond (Nat.blt i1 0) (0 : Int) (x.get (i1 - 0)).Left)))))))
theorem sd_f1a (x : X_f1a) : (tt_f1a x).Sides :=
  (TT.sI TT.sR (TT.sN TT.sR))
noncomputable def D_f1a : Dyn X_f1a R_f1a := .of tt_f1a
noncomputable def con_f1a : Con Tryz.prog :=
  mkCon 145 J_f1a S_f1a D_f1a D_f1a (fun _ _ h => h) 1 0 [hsl_TSo] (by kernel_rfl) (by kernel_rfl) (by kernel_rfl) (lbk mxk lbn 4000 (fun x => by kernel_rfl) sd_f1a) rfl rfl (fun _ => rfl) (by kernel_rfl) rfl (fun _ => rfl) (fun x y _ => by kernel_rfl)
abbrev X_fq : Type := Int × Int × (Sl TSo)
abbrev R_fq : Type := (Bx TSs) × Int
noncomputable def J_fq : Job Tryz.prog :=
  job Tryz.prog Tryz.f127 37 [(32, 1)] [] [] [.shut 6] [hbox_TSs, .any] [] [con_f1a, con_f2z, con_f1p] R_fq [] fun y => [V.tup (V.cons (ebox_TSs y.1) (V.cons ((V.int .i64) y.2) (V.unit)))]
noncomputable def S_fq : LabS :=
  lab0 Tryz.f127 3 0 X_fq (fun x => [(V.int .i64) x.1, (V.int .i64) x.2.1, esl_TSo x.2.2]) fun l => (dI (at_ l 0), dI (at_ l 1), dsl_TSo (at_ l 2))
structure X_fq_6 where
  places_0 : Int
  readers_1 : Int
  l_2 : (Sl TSo)
  q_18 : (Sl TSo)
  q_19 : Int
  q_20 : Int
noncomputable def S_fq_6 : LabS :=
  labAt Tryz.f127 6 [(0, .any), (1, .any), (2, hsl_TSo), (18, hsl_TSo), (19, .any), (20, .any)] [] [] X_fq_6 (fun x => [(V.int .i64) x.places_0, (V.int .i64) x.readers_1, esl_TSo x.l_2, esl_TSo x.q_18, (V.int .i64) x.q_19, (V.int .i64) x.q_20]) fun l => ⟨dI (at_ l 0), dI (at_ l 1), dsl_TSo (at_ l 2), dsl_TSo (at_ l 3), dI (at_ l 4), dI (at_ l 5)⟩
structure X_fq_11 where
  readers_1 : Int
  l_2 : (Sl TSo)
noncomputable def S_fq_11 : LabS :=
  labAt Tryz.f127 11 [(1, .any), (2, hsl_TSo)] [] [] X_fq_11 (fun x => [(V.int .i64) x.readers_1, esl_TSo x.l_2]) fun l => ⟨dI (at_ l 0), dsl_TSo (at_ l 1)⟩
noncomputable def tt_fq_11 (x : X_fq_11) : TT Tryz.prog R_fq :=
 (.call con_f1a x.l_2 fun (y1 : R_f1a) =>
 (.ret ((Bx.mk false (TSs.mk y1 x.readers_1)), 0)))
theorem sd_fq_11 (x : X_fq_11) : (tt_fq_11 x).Sides :=
  (TT.sC fun _ => TT.sR)
noncomputable def D_fq_11 : Dyn X_fq_11 R_fq := .of tt_fq_11
theorem ok_fq_11 : LabOK J_fq S_fq_11 D_fq_11 :=
  lbk mxk lbn 4000 (fun x => by kernel_rfl) sd_fq_11
noncomputable def tt_fq_6 (D_fq_6 : Dyn X_fq_6 R_fq) (x : X_fq_6) : TT Tryz.prog R_fq :=
 (.ite (ilt x.q_20 x.q_19)
 (.need (inb x.q_20 x.q_18.n) <|
 (.call con_f1p (x.q_20, (x.places_0, (x.readers_1, (x.q_18.get (Int.toNat x.q_20))))) fun (y2 : R_f1p) =>
 (.ite (!y2)
 (.ret ((Bx.mk true (TSs.mk (Sl.mk true 0 (fun _i3 => (TSo.mk 0 0 0))) 0)), 3))
 (.jump S_fq_6 D_fq_6 (X_fq_6.mk x.places_0 x.readers_1 x.l_2 x.q_18 x.q_19 (IntKind.i64.wrap (x.q_20 + 1)))))))
 (.jump S_fq_11 D_fq_11 (X_fq_11.mk x.readers_1 x.l_2)))
theorem sd_fq_6 (D_fq_6 : Dyn X_fq_6 R_fq) (x : X_fq_6) : (tt_fq_6 D_fq_6 x).Sides :=
  (TT.sI (TT.sN (TT.sC fun _ => (TT.sI TT.sR TT.sJ))) TT.sJ)
noncomputable def D_fq_6 : Dyn X_fq_6 R_fq := Dyn.loop tt_fq_6
theorem ok_fq_6 : LabOK J_fq S_fq_6 D_fq_6 :=
  loop_ok fun D_fq_6 h_6 => lbk mxk (lbc h_6 rfl (lbc ok_fq_11 rfl lbn)) 4000 (fun x => by kernel_rfl) (sd_fq_6 D_fq_6)
noncomputable def tt_fq (x : X_fq) : TT Tryz.prog R_fq :=
 (.call con_f2z (x.fst, x.snd.fst) fun (y1 : R_f2z) =>
 (.ite (!y1)
 (.ret ((Bx.mk true (TSs.mk (Sl.mk true 0 (fun _i2 => (TSo.mk 0 0 0))) 0)), 1))
 (.ite (!(ieq ((x.snd.snd.n : Nat) : Int) x.fst))
 (.ret ((Bx.mk true (TSs.mk (Sl.mk true 0 (fun _i2 => (TSo.mk 0 0 0))) 0)), 3))
 (.jump S_fq_6 D_fq_6 (X_fq_6.mk x.fst x.snd.fst x.snd.snd x.snd.snd ((x.snd.snd.n : Nat) : Int) 0)))))
theorem sd_fq (x : X_fq) : (tt_fq x).Sides :=
  (TT.sC fun _ => (TT.sI TT.sR (TT.sI TT.sR TT.sJ)))
noncomputable def D_fq : Dyn X_fq R_fq := .of tt_fq
noncomputable def con_fq : Con Tryz.prog :=
  mkCon 127 J_fq S_fq D_fq D_fq (fun _ _ h => h) 3 0 [.any, .any, hsl_TSo] (by kernel_rfl) (by kernel_rfl) (by kernel_rfl) (lbk mxk (lbc ok_fq_11 rfl (lbc ok_fq_6 rfl lbn)) 4000 (fun x => by kernel_rfl) sd_fq) rfl rfl (fun _ => rfl) (by kernel_rfl) rfl (fun _ => rfl) (fun x y _ => by kernel_rfl)
end Go.Proofs.YtiplcdhnjennfaaGreat
