/- What functions of the program come to, part B: no statement is proved here. -/
import Derived.Test.YtlhifcnjnmeknaaGreatGA
noncomputable section
namespace Go.Proofs.YtlhifcnjnmeknaaGreat
open Go Go.Vm Go.Proofs
set_option maxRecDepth 100000
abbrev X_f1i : Type := (Sl Int)
abbrev R_f1i : Type := (Sl Int)
def J_f1i : BH Tryz.prog :=
 BR Tryz.prog Tryz.f27 8 [(6, 1)] [] [] [.D8 2] [MI] [] [] R_f1i [] fun y => [CO y]
def S_f1i : AR :=
 Aj Tryz.f27 1 0 X_f1i (fun x => [CW x]) fun l => (ED (at_ l 0))
def tt_f1i (x : X_f1i) : TT Tryz.prog R_f1i :=
 (.ite x.nil
 (.ret (Sl.mk true 0 (fun _i1 => (0 : Int))))
 (.need (true && (room ((0 : Nat) + x.n) 8)) <|
 (.ret (Sl.mk (cond (Nat.beq x.n 0) false false) ((0 : Nat) + x.n) (fun i1 => (cond (Nat.blt i1 0) (0 : Int) (x.get (i1 - 0))))))))
theorem sd_f1i (x : X_f1i) : (tt_f1i x).AH :=
 (TT.sI TT.sR (TT.sN TT.sR))
def D_f1i : AV X_f1i R_f1i := .of tt_f1i
def con_f1i : BC Tryz.prog :=
 CH 27 J_f1i S_f1i D_f1i 1 0 [C5] (lk mxk lbn sd_f1i)
abbrev X_f2e : Type := (Sl TIn) × TTh
abbrev R_f2e : Type := TTh × TAk × Int
def J_f2e : BH Tryz.prog :=
 BR Tryz.prog Tryz.f53 26 [(18, 1), (19, 1), (20, 1), (24, 1)] [] [] [] [sh_TTh_6, .any, .any] [] [con_f1i, con_fl, con_fa] R_f2e [] fun y => [V.CG (V.cons (e_TTh_6 y.1) (V.cons (e_TAk y.2.1) (V.cons ((V.int .i64) y.2.2) (V.unit))))]
def S_f2e : AR :=
 Aj Tryz.f53 2 0 X_f2e (fun x => [esl_TIn x.1, e_TTh x.2]) fun l => (dsl_TIn (at_ l 0), d_TTh (at_ l 1))
def tt_f2e (x : X_f2e) : TT Tryz.prog R_f2e :=
 (.call con_fl x fun (y1 : R_fl) =>
 (.ite (!y1)
 (.ret ((TTh.mk 0 0 0 0 0 (fun _i2 => (0 : Int)) (Sl.mk true 0 (fun _i2 => (0 : Int)))), ((TAk.mk 0 0 0 0 0 0), 1)))
 (.call con_f1i x.snd.Seen fun (y2 : R_f1i) =>
 (.call con_fa (x.fst, (TTh.mk x.snd.At x.snd.Phase x.snd.Ring x.snd.Status x.snd.AJ x.snd.Ao y2)) fun (y3 : R_fa) =>
 (.ret (y3.fst, (y3.snd, 0)))))))
theorem sd_f2e (x : X_f2e) : (tt_f2e x).AH :=
 (TT.sC fun _ => (TT.sI TT.sR (TT.sC fun _ => (TT.sC fun _ => TT.sR))))
def D_f2e : AV X_f2e R_f2e := .of tt_f2e
def con_f2e : BC Tryz.prog :=
 CH 53 J_f2e S_f2e D_f2e 2 0 [hsl_TIn, sh_TTh] (lk mxk lbn sd_f2e)
abbrev X_fw : Type := Int × TFa
abbrev R_fw : Type := TAk
abbrev RR_fw : Type := TAk × TFa
abbrev p_fw (y : RR_fw) : TFa := y.2
abbrev w_fw (x : X_fw) : TFa := x.2
def J_fw : BH Tryz.prog :=
 BR Tryz.prog Tryz.f28 29 [(8, 1)] [(2, [.back (.loc 20 0)])] [(1, [.Gb (.par 0) [.BN 1 2] 20])] [.back (.loc 20 0)] [.any] [sh_TFa] [con_f2e] RR_fw [(0, [⟨.loc 20 0, .par 0, [.BN 1 2], none, none⟩])] fun y => [e_TAk y.1, e_TFa y.2]
def S_fw : AR :=
 Aj Tryz.f28 2 1 X_fw (fun x => [(V.ptr (.par 0) []), (V.int .i64) x.1, e_TFa x.2]) fun l => (dI (at_ l 1), d_TFa (at_ l 2))
def tt_fw (x : X_fw) : TT Tryz.prog RR_fw :=
 (.need (BA x.fst x.snd.p.AD.n) <|
 (.need (BA x.fst x.snd.threads.n) <|
 (.need ((Nat.beq x.snd.threads.n x.snd.threads.n) && true) <|
 (.call con_f2e ((x.snd.p.AD.get (Int.toNat x.fst)), (x.snd.threads.get ((0 : Nat) + (Int.toNat x.fst)))) fun (y1 : R_f2e) =>
 (.need ((true && true) && (Nat.beq x.snd.threads.n x.snd.threads.n)) <|
 (.ret (y1.snd.fst, x.snd)))))))
theorem sd_fw (x : X_fw) : (tt_fw x).AH :=
 (TT.sN (TT.sN (TT.sN (TT.sC fun _ => (TT.sN TT.sR)))))
theorem roT_fw (x : X_fw) : TT.Ro p_fw (w_fw x) (tt_fw x) :=
 (TT.rN (TT.rN (TT.rN (TT.rC fun _ => (TT.rN (TT.rR rfl))))))
def D_fw : AV X_fw R_fw := .ro (.of tt_fw) (fun y => (y.1)) (fun y x => (y, x.2)) fun x y h => congrArg (fun o => (y.1, o)) (roT_fw x y h)
def con_fw : BC Tryz.prog :=
 Cb 28 J_fw S_fw (.of tt_fw) D_fw (fun y x => (y, x.2)) (fun y => e_TAk y) 2 1 [.any, .any] (lk mxk lbn sd_fw) (fun x => ⟨(nu_e_TFa : ∀ y, (e_TFa y).CB) (x.2), trivial⟩)
abbrev X_f19 : Type := Int × TFa
abbrev R_f19 : Type := TAk × Int
abbrev RR_f19 : Type := TAk × Int × TFa
abbrev p_f19 (y : RR_f19) : TFa := y.2.2
abbrev w_f19 (x : X_f19) : TFa := x.2
def J_f19 : BH Tryz.prog :=
 BR Tryz.prog Tryz.f12 19 [] [] [] [] [.any, .any] [sh_TFa] [con_fw, con_fv] RR_f19 [] fun y => [V.CG (V.cons (e_TAk y.1) (V.cons ((V.int .i64) y.2.1) (V.unit))), e_TFa y.2.2]
def S_f19 : AR :=
 Aj Tryz.f12 2 1 X_f19 (fun x => [(V.ptr (.par 0) []), (V.int .i64) x.1, e_TFa x.2]) fun l => (dI (at_ l 1), d_TFa (at_ l 2))
def tt_f19 (x : X_f19) : TT Tryz.prog RR_f19 :=
 (.call con_fv (x.fst, x.snd) fun (y1 : R_fv) =>
 (.ite (!y1)
 (.ret ((TAk.mk 0 0 0 0 0 0), (5, x.snd)))
 (.call con_fw (x.fst, x.snd) fun (y2 : R_fw) =>
 (.ret (y2, (0, x.snd))))))
theorem sd_f19 (x : X_f19) : (tt_f19 x).AH :=
 (TT.sC fun _ => (TT.sI TT.sR (TT.sC fun _ => TT.sR)))
theorem roT_f19 (x : X_f19) : TT.Ro p_f19 (w_f19 x) (tt_f19 x) :=
 (TT.rC fun _ => (TT.rI (TT.rR rfl) (TT.rC fun _ => (TT.rR rfl))))
def D_f19 : AV X_f19 R_f19 := .ro (.of tt_f19) (fun y => (y.1, y.2.1)) (fun y x => (y.1, y.2, x.2)) fun x y h => congrArg (fun o => (y.1, y.2.1, o)) (roT_f19 x y h)
def con_f19 : BC Tryz.prog :=
 Cb 12 J_f19 S_f19 (.of tt_f19) D_f19 (fun y x => (y.1, y.2, x.2)) (fun y => V.CG (V.cons (e_TAk y.1) (V.cons ((V.int .i64) y.2) (V.unit)))) 2 1 [.any, .any] (lk mxk lbn sd_f19) (fun x => ⟨(nu_e_TFa : ∀ y, (e_TFa y).CB) (x.2), trivial⟩)
abbrev OH : Type := (Sl ByteArray)
def Rp : OH → V := (MY none 1 V.str)
def dsl_str : V → OH := (LW dS)
def Rj : Sh := (.sl none 1 (V.str (dS .undef)))
abbrev X_f2u : Type := Unit
abbrev R_f2u : Type := (Sl ByteArray)
def J_f2u : BH Tryz.prog :=
 BR Tryz.prog Tryz.f92 2 [] [] [] [.D8 0] [Rj] [] [] R_f2u [] fun y => [Rp y]
def S_f2u : AR :=
 Aj Tryz.f92 0 0 X_f2u (fun _x => []) fun _l => ()
def tt_f2u (_x : X_f2u) : TT Tryz.prog R_f2u :=
 (.ret (Sl.mk false 15 (fun i1 => (cond (Nat.beq i1 0) (ByteArray.mk #[99, 108, 97, 105, 109]) (cond (Nat.beq i1 1) (ByteArray.mk #[112, 117, 98, 108, 105, 115, 104]) (cond (Nat.beq i1 2) (ByteArray.mk #[116, 97, 107, 101]) (cond (Nat.beq i1 3) (ByteArray.mk #[114, 101, 108, 101, 97, 115, 101]) (cond (Nat.beq i1 4) (ByteArray.mk #[110, 111]) (cond (Nat.beq i1 5) (ByteArray.mk #[115, 104, 117, 116]) (cond (Nat.beq i1 6) (ByteArray.mk #[116, 105, 109, 101]) (cond (Nat.beq i1 7) (ByteArray.mk #[99, 108, 111, 99, 107]) (cond (Nat.beq i1 8) (ByteArray.mk #[100, 114, 97, 119]) (cond (Nat.beq i1 9) (ByteArray.mk #[114, 101, 97, 100]) (cond (Nat.beq i1 10) (ByteArray.mk #[101, 110, 100]) (cond (Nat.beq i1 11) (ByteArray.mk #[115, 101, 101]) (cond (Nat.beq i1 12) (ByteArray.mk #[99, 108, 111, 115, 101]) (cond (Nat.beq i1 13) (ByteArray.mk #[104, 97, 108, 116]) (ByteArray.mk #[115, 112, 105, 110]))))))))))))))))))
theorem sd_f2u (x : X_f2u) : (tt_f2u x).AH :=
 TT.sR
def D_f2u : AV X_f2u R_f2u := .of tt_f2u
def con_f2u : BC Tryz.prog :=
 CH 92 J_f2u S_f2u D_f2u 0 0 [] (lk mxk lbn sd_f2u)
abbrev X_f1v : Type := Int
abbrev R_f1v : Type := ByteArray
def J_f1v : BH Tryz.prog :=
 BR Tryz.prog Tryz.f70 14 [] [] [] [] [.any] [] [con_f2u] R_f1v [] fun y => [V.str y]
def S_f1v : AR :=
 Aj Tryz.f70 1 0 X_f1v (fun x => [(V.int .i64) x]) fun l => (dI (at_ l 0))
structure X_f1v_3 where
 NK : Int
def S_f1v_3 : AR :=
 Ak Tryz.f70 3 [(0, .any)] [] [] X_f1v_3 (fun x => [(V.int .i64) x.NK]) fun l => ⟨dI (at_ l 0)⟩
def tt_f1v_3 (x : X_f1v_3) : TT Tryz.prog R_f1v :=
 (.call con_f2u PUnit.unit fun (y1 : R_f2u) =>
 (.need (BA (IntKind.i64.wrap (x.NK - 1)) y1.n) <|
 (.ret (y1.get (Int.toNat (IntKind.i64.wrap (x.NK - 1)))))))
theorem sd_f1v_3 (x : X_f1v_3) : (tt_f1v_3 x).AH :=
 (TT.sC fun _ => (TT.sN TT.sR))
def D_f1v_3 : AV X_f1v_3 R_f1v := .of tt_f1v_3
theorem ok_f1v_3 : AZ J_f1v S_f1v_3 D_f1v_3 :=
 lk mxk lbn sd_f1v_3
def tt_f1v (x : X_f1v) : TT Tryz.prog R_f1v :=
 (.ite (Bu x 1)
 (.ret (ByteArray.mk #[]))
 (.ite (Bu 15 x)
 (.ret (ByteArray.mk #[]))
 (.Ac S_f1v_3 D_f1v_3 (X_f1v_3.mk x))))
theorem sd_f1v (x : X_f1v) : (tt_f1v x).AH :=
 (TT.sI TT.sR (TT.sI TT.sR TT.sJ))
def D_f1v : AV X_f1v R_f1v := .of tt_f1v
def con_f1v : BC Tryz.prog :=
 CH 70 J_f1v S_f1v D_f1v 1 0 [.any] (lk mxk (lbc ok_f1v_3 rfl lbn) sd_f1v)
abbrev X_f27 : Type := Int
abbrev R_f27 : Type := Bool
def J_f27 : BH Tryz.prog :=
 BR Tryz.prog Tryz.f94 13 [] [] [] [] [.any] [] [] R_f27 [] fun y => [V.bool y]
def S_f27 : AR :=
 Aj Tryz.f94 1 0 X_f27 (fun x => [(V.int .i64) x]) fun l => (dI (at_ l 0))
def tt_f27 (x : X_f27) : TT Tryz.prog R_f27 :=
 (.ite (Bh 1 x)
 (.ite (Bh x 4)
 (.ret true)
 (.ret (Ad x 13)))
 (.ret (Ad x 13)))
theorem sd_f27 (x : X_f27) : (tt_f27 x).AH :=
 (TT.sI (TT.sI TT.sR TT.sR) TT.sR)
def D_f27 : AV X_f27 R_f27 := .of tt_f27
def con_f27 : BC Tryz.prog :=
 CH 94 J_f27 S_f27 D_f27 1 0 [.any] (lk mxk lbn sd_f27)
abbrev X_f2f : Type := Int
abbrev R_f2f : Type := Bool
def J_f2f : BH Tryz.prog :=
 BR Tryz.prog Tryz.f93 13 [] [] [] [] [.any] [] [con_f27] R_f2f [] fun y => [V.bool y]
def S_f2f : AR :=
 Aj Tryz.f93 1 0 X_f2f (fun x => [(V.int .i64) x]) fun l => (dI (at_ l 0))
def tt_f2f (x : X_f2f) : TT Tryz.prog R_f2f :=
 (.call con_f27 x fun (y1 : R_f27) =>
 (.ite y1
 (.ret true)
 (.ite (Bh 5 x)
 (.ret (Bh x 7))
 (.ret false))))
theorem sd_f2f (x : X_f2f) : (tt_f2f x).AH :=
 (TT.sC fun _ => (TT.sI TT.sR (TT.sI TT.sR TT.sR)))
def D_f2f : AV X_f2f R_f2f := .of tt_f2f
def con_f2f : BC Tryz.prog :=
 CH 93 J_f2f S_f2f D_f2f 1 0 [.any] (lk mxk lbn sd_f2f)
abbrev X_f2j : Type := Int
abbrev R_f2j : Type := Bool
def J_f2j : BH Tryz.prog :=
 BR Tryz.prog Tryz.f95 13 [] [] [] [] [.any] [] [] R_f2j [] fun y => [V.bool y]
def S_f2j : AR :=
 Aj Tryz.f95 1 0 X_f2j (fun x => [(V.int .i64) x]) fun l => (dI (at_ l 0))
def tt_f2j (x : X_f2j) : TT Tryz.prog R_f2j :=
 (.ite (Bh 8 x)
 (.ite (Bh x 10)
 (.ret true)
 (.ret (Ad x 12)))
 (.ret (Ad x 12)))
theorem sd_f2j (x : X_f2j) : (tt_f2j x).AH :=
 (TT.sI (TT.sI TT.sR TT.sR) TT.sR)
def D_f2j : AV X_f2j R_f2j := .of tt_f2j
def con_f2j : BC Tryz.prog :=
 CH 95 J_f2j S_f2j D_f2j 1 0 [.any] (lk mxk lbn sd_f2j)
def d_TEv (v : V) : TEv :=
 ⟨dI (fd v 0), dI (fd v 1), dI (fd v 2), dI (fd v 3), dI (fd v 4)⟩
def e_TEv (x : TEv) : V :=
 V.cons ((V.int .i64) x.Thread) (V.cons ((V.int .i64) x.Kind) (V.cons ((V.int .i64) x.Ring) (V.cons ((V.int .u64) x.AJ) (V.cons ((V.int .u64) x.Value) (V.unit)))))
theorem nu_e_TEv (x : TEv) : (e_TEv x).CB := ⟨trivial, trivial, trivial, trivial, trivial, trivial⟩
abbrev X_fr : Type := TEv
abbrev R_fr : Type := TEv
def J_fr : BH Tryz.prog :=
 BR Tryz.prog Tryz.f71 19 [] [] [] [] [.any] [] [con_f2f, con_f27, con_f2j] R_fr [] fun y => [e_TEv y]
def S_fr : AR :=
 Aj Tryz.f71 1 0 X_fr (fun x => [e_TEv x]) fun l => (d_TEv (at_ l 0))
structure X_fr_3 where
 ND : TEv
 CM : TEv
def S_fr_3 : AR :=
 Ak Tryz.f71 3 (an [1, 2]) [] [(.loc 1 0, .any), (.loc 2 0, .any)] X_fr_3 (fun x => [(V.ptr (.loc 1 0) []), (V.ptr (.loc 2 0) []), e_TEv x.ND, e_TEv x.CM]) fun l => ⟨d_TEv (at_ l 2), d_TEv (at_ l 3)⟩
structure X_fr_5 where
 ND : TEv
 CM : TEv
def S_fr_5 : AR :=
 Ak Tryz.f71 5 (an [1, 2]) [] [(.loc 1 0, .any), (.loc 2 0, .any)] X_fr_5 (fun x => [(V.ptr (.loc 1 0) []), (V.ptr (.loc 2 0) []), e_TEv x.ND, e_TEv x.CM]) fun l => ⟨d_TEv (at_ l 2), d_TEv (at_ l 3)⟩
def tt_fr_5 (x : X_fr_5) : TT Tryz.prog R_fr :=
 (.call con_f2j x.ND.Kind fun (y1 : R_f2j) =>
 (.ite (!y1)
 (.ret (TEv.mk x.ND.Thread x.ND.Kind x.ND.Ring x.ND.AJ 0))
 (.ret x.ND)))
theorem sd_fr_5 (x : X_fr_5) : (tt_fr_5 x).AH :=
 (TT.sC fun _ => (TT.sI TT.sR TT.sR))
def D_fr_5 : AV X_fr_5 R_fr := .of tt_fr_5
theorem ok_fr_5 : AZ J_fr S_fr_5 D_fr_5 :=
 lk mxk lbn sd_fr_5
def tt_fr_3 (x : X_fr_3) : TT Tryz.prog R_fr :=
 (.call con_f27 x.ND.Kind fun (y1 : R_f27) =>
 (.ite (!y1)
 (.Ac S_fr_5 D_fr_5 (X_fr_5.mk (TEv.mk x.ND.Thread x.ND.Kind x.ND.Ring 0 x.ND.Value) x.CM))
 (.Ac S_fr_5 D_fr_5 (X_fr_5.mk x.ND x.CM))))
theorem sd_fr_3 (x : X_fr_3) : (tt_fr_3 x).AH :=
 (TT.sC fun _ => (TT.sI TT.sJ TT.sJ))
def D_fr_3 : AV X_fr_3 R_fr := .of tt_fr_3
theorem ok_fr_3 : AZ J_fr S_fr_3 D_fr_3 :=
 lk mxk (lbc ok_fr_5 rfl lbn) sd_fr_3
def tt_fr (x : X_fr) : TT Tryz.prog R_fr :=
 (.call con_f2f x.Kind fun (y1 : R_f2f) =>
 (.ite (!y1)
 (.Ac S_fr_3 D_fr_3 (X_fr_3.mk (TEv.mk x.Thread x.Kind 0 x.AJ x.Value) (TEv.mk 0 0 0 0 0)))
 (.Ac S_fr_3 D_fr_3 (X_fr_3.mk x (TEv.mk 0 0 0 0 0)))))
theorem sd_fr (x : X_fr) : (tt_fr x).AH :=
 (TT.sC fun _ => (TT.sI TT.sJ TT.sJ))
def D_fr : AV X_fr R_fr := .of tt_fr
def con_fr : BC Tryz.prog :=
 CH 71 J_fr S_fr D_fr 1 0 [.any] (lk mxk (lbc ok_fr_5 rfl (lbc ok_fr_3 rfl lbn)) sd_fr)
abbrev X_f2g : Type := TEv
abbrev R_f2g : Type := Bool
def J_f2g : BH Tryz.prog :=
 BR Tryz.prog Tryz.f46 38 [(1, 3)] [] [] [] [.any] [] [con_f1v, con_fr] R_f2g [] fun y => [V.bool y]
def S_f2g : AR :=
 Aj Tryz.f46 1 0 X_f2g (fun x => [e_TEv x]) fun l => (d_TEv (at_ l 0))
def tt_f2g (x : X_f2g) : TT Tryz.prog R_f2g :=
 (.call con_f1v x.Kind fun (y1 : R_f1v) =>
 (.ite (!(seq y1 (ByteArray.mk #[])))
 (.call con_fr x fun (y2 : R_fr) =>
 (.ite ((Ad x.Thread y2.Thread) && ((Ad x.Kind y2.Kind) && ((Ad x.Ring y2.Ring) && ((Ad x.AJ y2.AJ) && ((Ad x.Value y2.Value) && true)))))
 (.ite (Bh 0 x.Thread)
 (.ite (Bu x.Thread 8)
 (.ite (Bh 0 x.Ring)
 (.ite (Bu x.Ring 8)
 (.ret (Bu x.AJ 4611686018427387904))
 (.ret false))
 (.ret false))
 (.ret false))
 (.ret false))
 (.ret false)))
 (.ret false)))
theorem sd_f2g (x : X_f2g) : (tt_f2g x).AH :=
 (TT.sC fun _ => (TT.sI (TT.sC fun _ => (TT.sI (TT.sI (TT.sI (TT.sI (TT.sI TT.sR TT.sR) TT.sR) TT.sR) TT.sR) TT.sR)) TT.sR))
def D_f2g : AV X_f2g R_f2g := .of tt_f2g
def con_f2g : BC Tryz.prog :=
 CH 46 J_f2g S_f2g D_f2g 1 0 [.any] (lk mxk lbn sd_f2g)
abbrev X_f26 : Type := Int
abbrev R_f26 : Type := Int
def J_f26 : BH Tryz.prog :=
 BR Tryz.prog Tryz.f96 25 [] [] [] [] [.any] [] [] R_f26 [] fun y => [(V.int .i64) y]
def S_f26 : AR :=
 Aj Tryz.f96 1 0 X_f26 (fun x => [(V.int .i64) x]) fun l => (dI (at_ l 0))
def tt_f26 (x : X_f26) : TT Tryz.prog R_f26 :=
 (.ite (Ad x 1)
 (.ret 1)
 (.ite (Ad x 2)
 (.ret 10)
 (.ite (Ad x 3)
 (.ret 2)
 (.ite (Ad x 4)
 (.ret 11)
 (.ite (Ad x 8)
 (.ret 4)
 (.ite (Ad x 9)
 (.ret 5)
 (.ite (Ad x 10)
 (.ret 6)
 (.ite (Ad x 11)
 (.ret 6)
 (.ite (Ad x 12)
 (.ret 7)
 (.ite (Ad x 13)
 (.ret 3)
 (.ite (Ad x 14)
 (.ret 8)
 (.ret 9))))))))))))
theorem sd_f26 (x : X_f26) : (tt_f26 x).AH :=
 (TT.sI TT.sR (TT.sI TT.sR (TT.sI TT.sR (TT.sI TT.sR (TT.sI TT.sR (TT.sI TT.sR (TT.sI TT.sR (TT.sI TT.sR (TT.sI TT.sR (TT.sI TT.sR (TT.sI TT.sR TT.sR)))))))))))
def D_f26 : AV X_f26 R_f26 := .of tt_f26
def con_f26 : BC Tryz.prog :=
 CH 96 J_f26 S_f26 D_f26 1 0 [.any] (lk mxk lbn sd_f26)
abbrev X_fe : Type := TAk × TEv
abbrev R_fe : Type := Bool
def J_fe : BH Tryz.prog :=
 BR Tryz.prog Tryz.f72 79 [(2, 3), (3, 3)] [] [] [] [.any] [] [con_f2f, con_f26] R_fe [] fun y => [V.bool y]
def S_fe : AR :=
 Aj Tryz.f72 2 0 X_fe (fun x => [e_TAk x.1, e_TEv x.2]) fun l => (d_TAk (at_ l 0), d_TEv (at_ l 1))
structure X_fe_3 where
 LQ : TAk
 E8 : TEv
def S_fe_3 : AR :=
 Ak Tryz.f72 3 (an [2, 3]) [] [] X_fe_3 (fun x => [(DQ e_TAk) x.LQ, (DQ e_TEv) x.E8]) fun l => ⟨(DR d_TAk) (at_ l 0), (DR d_TEv) (at_ l 1)⟩
structure X_fe_4 where
 LQ : TAk
 E8 : TEv
 IX : Bool
def S_fe_4 : AR :=
 Ak Tryz.f72 4 (an [2, 3, 5]) [] [] X_fe_4 (fun x => [(DQ e_TAk) x.LQ, (DQ e_TEv) x.E8, V.bool x.IX]) fun l => ⟨(DR d_TAk) (at_ l 0), (DR d_TEv) (at_ l 1), dB (at_ l 2)⟩
structure X_fe_16 where
 LQ : TAk
 E8 : TEv
def S_fe_16 : AR :=
 Ak Tryz.f72 16 (an [2, 3]) [] [] X_fe_16 (fun x => [(DQ e_TAk) x.LQ, (DQ e_TEv) x.E8]) fun l => ⟨(DR d_TAk) (at_ l 0), (DR d_TEv) (at_ l 1)⟩
def tt_fe_16 (x : X_fe_16) : TT Tryz.prog R_fe :=
 (.call con_f26 x.E8.Kind fun (y1 : R_f26) =>
 (.ret (Ad x.LQ.Kind y1)))
theorem sd_fe_16 (x : X_fe_16) : (tt_fe_16 x).AH :=
 (TT.sC fun _ => TT.sR)
def D_fe_16 : AV X_fe_16 R_fe := .of tt_fe_16
theorem ok_fe_16 : AZ J_fe S_fe_16 D_fe_16 :=
 lk mxk lbn sd_fe_16
def tt_fe_4 (x : X_fe_4) : TT Tryz.prog R_fe :=
 (.ite (Ad x.E8.Kind 5)
 (.ite x.IX
 (.ret (Ad x.LQ.Mode 0))
 (.ret false))
 (.ite (Ad x.E8.Kind 6)
 (.ret x.IX)
 (.ite (Ad x.E8.Kind 7)
 (.ite x.IX
 (.ret (Ad x.LQ.Mode 2))
 (.ret false))
 (.ite (Ad x.E8.Kind 2)
 (.call con_f26 x.E8.Kind fun (y1 : R_f26) =>
 (.ite (Ad x.LQ.Kind y1)
 (.ret (Ad x.LQ.AJ x.E8.AJ))
 (.ret false)))
 (.ite (Ad x.E8.Kind 4)
 (.call con_f26 x.E8.Kind fun (y1 : R_f26) =>
 (.ite (Ad x.LQ.Kind y1)
 (.ret (Ad x.LQ.AJ x.E8.AJ))
 (.ret false)))
 (.ite (Ad x.E8.Kind 12)
 (.ite (Ad x.LQ.Kind 7)
 (.ret (Ad x.LQ.Value x.E8.Value))
 (.ret false))
 (.Ac S_fe_16 D_fe_16 (X_fe_16.mk x.LQ x.E8))))))))
theorem sd_fe_4 (x : X_fe_4) : (tt_fe_4 x).AH :=
 (TT.sI (TT.sI TT.sR TT.sR) (TT.sI TT.sR (TT.sI (TT.sI TT.sR TT.sR) (TT.sI (TT.sC fun _ => (TT.sI TT.sR TT.sR)) (TT.sI (TT.sC fun _ => (TT.sI TT.sR TT.sR)) (TT.sI (TT.sI TT.sR TT.sR) TT.sJ))))))
def D_fe_4 : AV X_fe_4 R_fe := .of tt_fe_4
theorem ok_fe_4 : AZ J_fe S_fe_4 D_fe_4 :=
 lk mxk (lbc ok_fe_16 rfl lbn) sd_fe_4
def tt_fe_3 (x : X_fe_3) : TT Tryz.prog R_fe :=
 (.ite (Ad x.LQ.Kind 1)
 (.Ac S_fe_4 D_fe_4 (X_fe_4.mk x.LQ x.E8 true))
 (.Ac S_fe_4 D_fe_4 (X_fe_4.mk x.LQ x.E8 (Ad x.LQ.Kind 2))))
theorem sd_fe_3 (x : X_fe_3) : (tt_fe_3 x).AH :=
 (TT.sI TT.sJ TT.sJ)
def D_fe_3 : AV X_fe_3 R_fe := .of tt_fe_3
theorem ok_fe_3 : AZ J_fe S_fe_3 D_fe_3 :=
 lk mxk (lbc ok_fe_16 rfl (lbc ok_fe_4 rfl lbn)) sd_fe_3
def tt_fe (x : X_fe) : TT Tryz.prog R_fe :=
 (.call con_f2f x.snd.Kind fun (y1 : R_f2f) =>
 (.ite y1
 (.ite (!(Ad x.fst.Ring x.snd.Ring))
 (.ret false)
 (.Ac S_fe_3 D_fe_3 (X_fe_3.mk x.fst x.snd)))
 (.Ac S_fe_3 D_fe_3 (X_fe_3.mk x.fst x.snd))))
theorem sd_fe (x : X_fe) : (tt_fe x).AH :=
 (TT.sC fun _ => (TT.sI (TT.sI TT.sR TT.sJ) TT.sJ))
def D_fe : AV X_fe R_fe := .of tt_fe
def con_fe : BC Tryz.prog :=
 CH 72 J_fe S_fe D_fe 2 0 [.any, .any] (lk mxk (lbc ok_fe_16 rfl (lbc ok_fe_4 rfl (lbc ok_fe_3 rfl lbn))) sd_fe)
abbrev X_fj : Type := TIn × TEv × Int × TTh
abbrev R_fj : Type := TTh
def J_fj : BH Tryz.prog :=
 BR Tryz.prog Tryz.f73 121 [(4, 3), (6, 3), (98, 1)] [] [] [] [] [sh_TTh_6] [] R_fj [] fun y => [V.CG (V.unit), e_TTh_6 y]
def S_fj : AR :=
 Aj Tryz.f73 4 1 X_fj (fun x => [e_TIn x.1, (V.ptr (.par 0) []), e_TEv x.2.1, (V.int .u64) x.2.2.1, e_TTh_6 x.2.2.2]) fun l => (d_TIn (at_ l 0), d_TEv (at_ l 2), dI (at_ l 3), d_TTh (at_ l 4))
structure X_fj_23 where
 Ae : TTh
def S_fj_23 : AR :=
 Ak Tryz.f73 23 [(1, .any)] [sh_TTh_6] [] X_fj_23 (fun x => [(V.ptr (.par 0) []), e_TTh_6 x.Ae]) fun l => ⟨d_TTh (at_ l 1)⟩
def tt_fj_23 (x : X_fj_23) : TT Tryz.prog R_fj :=
 (.ret (TTh.mk (IntKind.i64.wrap (x.Ae.At + 1)) 0 0 x.Ae.Status 0 x.Ae.Ao x.Ae.Seen))
theorem sd_fj_23 (x : X_fj_23) : (tt_fj_23 x).AH :=
 TT.sR
def D_fj_23 : AV X_fj_23 R_fj := .of tt_fj_23
theorem ok_fj_23 : AZ J_fj S_fj_23 D_fj_23 :=
 lk mxk lbn sd_fj_23
def tt_fj (x : X_fj) : TT Tryz.prog R_fj :=
 (.ite (Ad x.snd.fst.Kind 2)
 (.need (BA x.fst.B 8) <|
 (.Ac S_fj_23 D_fj_23 (X_fj_23.mk (TTh.mk x.snd.snd.snd.At x.snd.snd.snd.Phase x.snd.snd.snd.Ring x.snd.snd.snd.Status x.snd.snd.snd.AJ (fun i1 => (cond (Nat.beq i1 (Int.toNat x.fst.B)) (0 : Int) (x.snd.snd.snd.Ao i1))) x.snd.snd.snd.Seen))))
 (.ite (Ad x.snd.fst.Kind 4)
 (.need (BA x.fst.A 8) <|
 (.need (BA x.fst.B 8) <|
 (.Ac S_fj_23 D_fj_23 (X_fj_23.mk (TTh.mk x.snd.snd.snd.At x.snd.snd.snd.Phase x.snd.snd.snd.Ring x.snd.snd.snd.Status x.snd.snd.snd.AJ (fun i1 => (cond (Nat.beq i1 (Int.toNat x.fst.B)) (0 : Int) (cond (Nat.beq i1 (Int.toNat x.fst.A)) x.snd.snd.fst (x.snd.snd.snd.Ao i1)))) x.snd.snd.snd.Seen)))))
 (.ite (Ad x.snd.fst.Kind 5)
 (.need (BA x.fst.B 8) <|
 (.Ac S_fj_23 D_fj_23 (X_fj_23.mk (TTh.mk x.snd.snd.snd.At x.snd.snd.snd.Phase x.snd.snd.snd.Ring x.snd.snd.snd.Status x.snd.snd.snd.AJ (fun i1 => (cond (Nat.beq i1 (Int.toNat x.fst.B)) (1 : Int) (x.snd.snd.snd.Ao i1))) x.snd.snd.snd.Seen))))
 (.ite (Ad x.snd.fst.Kind 6)
 (.need (BA x.fst.B 8) <|
 (.Ac S_fj_23 D_fj_23 (X_fj_23.mk (TTh.mk x.snd.snd.snd.At x.snd.snd.snd.Phase x.snd.snd.snd.Ring x.snd.snd.snd.Status x.snd.snd.snd.AJ (fun i1 => (cond (Nat.beq i1 (Int.toNat x.fst.B)) (2 : Int) (x.snd.snd.snd.Ao i1))) x.snd.snd.snd.Seen))))
 (.ite (Ad x.snd.fst.Kind 7)
 (.need (BA x.fst.B 8) <|
 (.Ac S_fj_23 D_fj_23 (X_fj_23.mk (TTh.mk x.snd.snd.snd.At x.snd.snd.snd.Phase x.snd.snd.snd.Ring x.snd.snd.snd.Status x.snd.snd.snd.AJ (fun i1 => (cond (Nat.beq i1 (Int.toNat x.fst.B)) (3 : Int) (x.snd.snd.snd.Ao i1))) x.snd.snd.snd.Seen))))
 (.ite (Ad x.snd.fst.Kind 8)
 (.need (BA x.fst.A 8) <|
 (.Ac S_fj_23 D_fj_23 (X_fj_23.mk (TTh.mk x.snd.snd.snd.At x.snd.snd.snd.Phase x.snd.snd.snd.Ring x.snd.snd.snd.Status x.snd.snd.snd.AJ (fun i1 => (cond (Nat.beq i1 (Int.toNat x.fst.A)) x.snd.fst.Value (x.snd.snd.snd.Ao i1))) x.snd.snd.snd.Seen))))
 (.ite (Ad x.snd.fst.Kind 9)
 (.need (BA x.fst.A 8) <|
 (.Ac S_fj_23 D_fj_23 (X_fj_23.mk (TTh.mk x.snd.snd.snd.At x.snd.snd.snd.Phase x.snd.snd.snd.Ring x.snd.snd.snd.Status x.snd.snd.snd.AJ (fun i1 => (cond (Nat.beq i1 (Int.toNat x.fst.A)) x.snd.fst.Value (x.snd.snd.snd.Ao i1))) x.snd.snd.snd.Seen))))
 (.ite (Ad x.snd.fst.Kind 10)
 (.need (BA x.fst.A 8) <|
 (.need (BA x.fst.B 8) <|
 (.Ac S_fj_23 D_fj_23 (X_fj_23.mk (TTh.mk x.snd.snd.snd.At x.snd.snd.snd.Phase x.snd.snd.snd.Ring x.snd.snd.snd.Status x.snd.snd.snd.AJ (fun i1 => (cond (Nat.beq i1 (Int.toNat x.fst.B)) (0 : Int) (cond (Nat.beq i1 (Int.toNat x.fst.A)) x.snd.fst.Value (x.snd.snd.snd.Ao i1)))) x.snd.snd.snd.Seen)))))
 (.ite (Ad x.snd.fst.Kind 11)
 (.need (BA x.fst.B 8) <|
 (.Ac S_fj_23 D_fj_23 (X_fj_23.mk (TTh.mk x.snd.snd.snd.At x.snd.snd.snd.Phase x.snd.snd.snd.Ring x.snd.snd.snd.Status x.snd.snd.snd.AJ (fun i1 => (cond (Nat.beq i1 (Int.toNat x.fst.B)) (1 : Int) (x.snd.snd.snd.Ao i1))) x.snd.snd.snd.Seen))))
 (.ite (Ad x.snd.fst.Kind 12)
 (.need (true && (room (x.snd.snd.snd.Seen.n + 1) 8)) <|
 (.Ac S_fj_23 D_fj_23 (X_fj_23.mk (TTh.mk x.snd.snd.snd.At x.snd.snd.snd.Phase x.snd.snd.snd.Ring x.snd.snd.snd.Status x.snd.snd.snd.AJ x.snd.snd.snd.Ao (Sl.mk (cond (Nat.beq 1 0) x.snd.snd.snd.Seen.nil false) (x.snd.snd.snd.Seen.n + 1) (fun i1 => (cond (Nat.blt i1 x.snd.snd.snd.Seen.n) (x.snd.snd.snd.Seen.get i1) x.snd.fst.Value)))))))
 (.Ac S_fj_23 D_fj_23 (X_fj_23.mk x.snd.snd.snd))))))))))))
theorem sd_fj (x : X_fj) : (tt_fj x).AH :=
 (TT.sI (TT.sN TT.sJ) (TT.sI (TT.sN (TT.sN TT.sJ)) (TT.sI (TT.sN TT.sJ) (TT.sI (TT.sN TT.sJ) (TT.sI (TT.sN TT.sJ) (TT.sI (TT.sN TT.sJ) (TT.sI (TT.sN TT.sJ) (TT.sI (TT.sN (TT.sN TT.sJ)) (TT.sI (TT.sN TT.sJ) (TT.sI (TT.sN TT.sJ) TT.sJ))))))))))
def D_fj : AV X_fj R_fj := .of tt_fj
def con_fj : BC Tryz.prog :=
 CH 73 J_fj S_fj D_fj 4 1 [.any, .any, .any, .any] (lk mxk (lbc ok_fj_23 rfl lbn) sd_fj)
abbrev X_f1u : Type := (Sl TIn) × TTh × TEv × Int
abbrev R_f1u : Type := TTh × Int
def J_f1u : BH Tryz.prog :=
 BR Tryz.prog Tryz.f47 75 [(6, 3), (12, 1), (42, 1)] [] [] [] [sh_TTh, .any] [] [con_f2g, con_f2e, con_fj, con_fe] R_f1u [] fun y => [V.CG (V.cons (e_TTh y.1) (V.cons ((V.int .i64) y.2) (V.unit)))]
def S_f1u : AR :=
 Aj Tryz.f47 4 0 X_f1u (fun x => [esl_TIn x.1, e_TTh x.2.1, e_TEv x.2.2.1, (V.int .u64) x.2.2.2]) fun l => (dsl_TIn (at_ l 0), d_TTh (at_ l 1), d_TEv (at_ l 2), dI (at_ l 3))
structure X_f1u_8 where
 Fb : (Sl TIn)
 v_3 : Int
 Q5 : TEv
 E3 : TTh
 H3 : TTh
def S_f1u_8 : AR :=
 Ak Tryz.f47 8 [(0, hsl_TIn), (3, .any), (5, .any), (6, .any), (8, .any)] [] [(.loc 5 0, sh_TTh_6), (.loc 8 0, sh_TTh_6)] X_f1u_8 (fun x => [esl_TIn x.Fb, (V.int .u64) x.v_3, (V.ptr (.loc 5 0) []), (DQ e_TEv) x.Q5, (V.ptr (.loc 8 0) []), e_TTh_6 x.E3, e_TTh_6 x.H3]) fun l => ⟨dsl_TIn (at_ l 0), dI (at_ l 1), (DR d_TEv) (at_ l 3), d_TTh (at_ l 5), d_TTh (at_ l 6)⟩
def tt_f1u_8 (x : X_f1u_8) : TT Tryz.prog R_f1u :=
 (.ite (Ad x.Q5.Kind 1)
 (.ret ((TTh.mk x.E3.At 1 x.Q5.Ring x.E3.Status x.Q5.AJ x.E3.Ao x.E3.Seen), 0))
 (.ite (Ad x.Q5.Kind 3)
 (.ret ((TTh.mk x.E3.At 2 x.Q5.Ring x.E3.Status x.Q5.AJ x.E3.Ao x.E3.Seen), 0))
 (.ite (Ad x.Q5.Kind 14)
 (.ret ((TTh.mk x.E3.At x.E3.Phase x.E3.Ring 1 x.E3.AJ x.E3.Ao x.E3.Seen), 0))
 (.ite (Ad x.Q5.Kind 15)
 (.ret ((TTh.mk x.E3.At x.E3.Phase x.E3.Ring 2 x.E3.AJ x.E3.Ao x.E3.Seen), 0))
 (.need (BA x.E3.At x.Fb.n) <|
 (.call con_fj ((x.Fb.get (Int.toNat x.E3.At)), (x.Q5, (x.v_3, x.E3))) fun (y1 : R_fj) =>
 (.ret (y1, 0))))))))
theorem sd_f1u_8 (x : X_f1u_8) : (tt_f1u_8 x).AH :=
 (TT.sI TT.sR (TT.sI TT.sR (TT.sI TT.sR (TT.sI TT.sR (TT.sN (TT.sC fun _ => TT.sR))))))
def D_f1u_8 : AV X_f1u_8 R_f1u := .of tt_f1u_8
theorem ok_f1u_8 : AZ J_f1u S_f1u_8 D_f1u_8 :=
 lk mxk lbn sd_f1u_8
def tt_f1u (x : X_f1u) : TT Tryz.prog R_f1u :=
 (.call con_f2e (x.fst, x.snd.fst) fun (y1 : R_f2e) =>
 (.ite (!(Ad y1.snd.snd 0))
 (.ret ((TTh.mk 0 0 0 0 0 (fun _i2 => (0 : Int)) (Sl.mk true 0 (fun _i2 => (0 : Int)))), y1.snd.snd))
 (.call con_f2g x.snd.snd.fst fun (y2 : R_f2g) =>
 (.ite (!y2)
 (.ret ((TTh.mk 0 0 0 0 0 (fun _i3 => (0 : Int)) (Sl.mk true 0 (fun _i3 => (0 : Int)))), 3))
 (.ite (Ad y1.snd.fst.Kind 0)
 (.ret ((TTh.mk 0 0 0 0 0 (fun _i3 => (0 : Int)) (Sl.mk true 0 (fun _i3 => (0 : Int)))), 11))
 (.call con_fe (y1.snd.fst, x.snd.snd.fst) fun (y3 : R_fe) =>
 (.ite (!y3)
 (.ret ((TTh.mk 0 0 0 0 0 (fun _i4 => (0 : Int)) (Sl.mk true 0 (fun _i4 => (0 : Int)))), 11))
 (.Ac S_f1u_8 D_f1u_8 (X_f1u_8.mk x.fst x.snd.snd.snd x.snd.snd.fst y1.fst (TTh.mk 0 0 0 0 0 (fun _i4 => (0 : Int)) (Sl.mk true 0 (fun _i4 => (0 : Int)))))))))))))
theorem sd_f1u (x : X_f1u) : (tt_f1u x).AH :=
 (TT.sC fun _ => (TT.sI TT.sR (TT.sC fun _ => (TT.sI TT.sR (TT.sI TT.sR (TT.sC fun _ => (TT.sI TT.sR TT.sJ)))))))
def D_f1u : AV X_f1u R_f1u := .of tt_f1u
def con_f1u : BC Tryz.prog :=
 CH 47 J_f1u S_f1u D_f1u 4 0 [hsl_TIn, sh_TTh, .any, .any] (lk mxk (lbc ok_f1u_8 rfl lbn) sd_f1u)
abbrev X_fs : Type := TEv × TFa
abbrev R_fs : Type := Int
abbrev RR_fs : Type := Int × TFa
abbrev p_fs (y : RR_fs) : TFa := y.2
abbrev w_fs (x : X_fs) : TFa := x.2
def J_fs : BH Tryz.prog :=
 BR Tryz.prog Tryz.f24 43 [(3, 3), (20, 1)] [(8, [.back (.loc 33 0)])] [(7, [.Gb (.par 0) [.BN 1 2] 33])] [.back (.loc 33 0)] [.any] [sh_TFa] [con_f2g, con_fv, con_f1u] RR_fs [(0, [⟨.loc 33 0, .par 0, [.BN 1 2], none, none⟩])] fun y => [(V.int .i64) y.1, e_TFa y.2]
def S_fs : AR :=
 Aj Tryz.f24 2 1 X_fs (fun x => [(V.ptr (.par 0) []), e_TEv x.1, e_TFa x.2]) fun l => (d_TEv (at_ l 1), d_TFa (at_ l 2))
def tt_fs (x : X_fs) : TT Tryz.prog RR_fs :=
 (.call con_f2g x.fst fun (y1 : R_f2g) =>
 (.ite (!y1)
 (.ret (3, x.snd))
 (.call con_fv (x.fst.Thread, x.snd) fun (y2 : R_fv) =>
 (.ite (!y2)
 (.ret (5, x.snd))
 (.need (BA x.fst.Thread x.snd.p.AD.n) <|
 (.need (BA x.fst.Thread x.snd.threads.n) <|
 (.need ((Nat.beq x.snd.threads.n x.snd.threads.n) && true) <|
 (.call con_f1u ((x.snd.p.AD.get (Int.toNat x.fst.Thread)), ((x.snd.threads.get ((0 : Nat) + (Int.toNat x.fst.Thread))), (x.fst, 0))) fun (y3 : R_f1u) =>
 (.need ((true && true) && (Nat.beq x.snd.threads.n x.snd.threads.n)) <|
 (.ret (y3.snd, x.snd)))))))))))
theorem sd_fs (x : X_fs) : (tt_fs x).AH :=
 (TT.sC fun _ => (TT.sI TT.sR (TT.sC fun _ => (TT.sI TT.sR (TT.sN (TT.sN (TT.sN (TT.sC fun _ => (TT.sN TT.sR)))))))))
theorem roT_fs (x : X_fs) : TT.Ro p_fs (w_fs x) (tt_fs x) :=
 (TT.rC fun _ => (TT.rI (TT.rR rfl) (TT.rC fun _ => (TT.rI (TT.rR rfl) (TT.rN (TT.rN (TT.rN (TT.rC fun _ => (TT.rN (TT.rR rfl))))))))))
def D_fs : AV X_fs R_fs := .ro (.of tt_fs) (fun y => (y.1)) (fun y x => (y, x.2)) fun x y h => congrArg (fun o => (y.1, o)) (roT_fs x y h)
def con_fs : BC Tryz.prog :=
 Cb 24 J_fs S_fs (.of tt_fs) D_fs (fun y x => (y, x.2)) (fun y => (V.int .i64) y) 2 1 [.any, .any] (lk mxk lbn sd_fs) (fun x => ⟨(nu_e_TFa : ∀ y, (e_TFa y).CB) (x.2), trivial⟩)
abbrev X_f14 : Type := TRr
abbrev R_f14 : Type := Bool
abbrev RR_f14 : Type := Bool × TRr
abbrev p_f14 (y : RR_f14) : TRr := y.2
abbrev w_f14 (x : X_f14) : TRr := x
def J_f14 : BH Tryz.prog :=
 BR Tryz.prog Tryz.f30 11 [] [] [] [] [.any] [sh_TRr] [] RR_f14 [] fun y => [V.bool y.1, e_TRr y.2]
def S_f14 : AR :=
 Aj Tryz.f30 1 1 X_f14 (fun x => [(V.ptr (.par 0) []), e_TRr x]) fun l => (d_TRr (at_ l 1))
def tt_f14 (x : X_f14) : TT Tryz.prog RR_f14 :=
 (.ret (x.closed, x))
theorem sd_f14 (x : X_f14) : (tt_f14 x).AH :=
 TT.sR
theorem roT_f14 (x : X_f14) : TT.Ro p_f14 (w_f14 x) (tt_f14 x) :=
 (TT.rR rfl)
def D_f14 : AV X_f14 R_f14 := .ro (.of tt_f14) (fun y => (y.1)) (fun y x => (y, x)) fun x y h => congrArg (fun o => (y.1, o)) (roT_f14 x y h)
def con_f14 : BC Tryz.prog :=
 Cb 30 J_f14 S_f14 (.of tt_f14) D_f14 (fun y x => (y, x)) (fun y => V.bool y) 1 1 [.any] (lk mxk lbn sd_f14) (fun x => ⟨(nu_e_TRr : ∀ y, (e_TRr y).CB) (x), trivial⟩)
abbrev X_f6 : Type := (Ar Int)
abbrev R_f6 : Type := Int
abbrev RR_f6 : Type := Int × (Ar Int)
abbrev p_f6 (y : RR_f6) : (Ar Int) := y.2
abbrev w_f6 (x : X_f6) : (Ar Int) := x
def J_f6 : BH Tryz.prog :=
 BR Tryz.prog Tryz.f104 25 [] [] [] [] [.any] [.any] [] RR_f6 [] fun y => [(V.int .u64) y.1, (Hm 1 (V.int .u64)) y.2]
def S_f6 : AR :=
 Aj Tryz.f104 1 1 X_f6 (fun x => [(V.own (.par 0) [] 1 x.n 0 x.n), (Hm 1 (V.int .u64)) x]) fun l => ((Mq dI) (at_ l 1))
structure X_f6_3 where
 Ae : (Ar Int)
def S_f6_3 : AR :=
 Ak Tryz.f104 3 [(0, .any)] [.any] [] X_f6_3 (fun x => [(V.own (.par 0) [] 1 x.Ae.n 0 x.Ae.n), (Hm 1 (V.int .u64)) x.Ae]) fun l => ⟨(Mq dI) (at_ l 1)⟩
structure X_f6_5 where
 C4 : Int
 Ie : Int
 Ae : (Ar Int)
def S_f6_5 : AR :=
 Ak Tryz.f104 5 (an [0, 3, 4]) [.any] [] X_f6_5 (fun x => [(V.own (.par 0) [] 1 x.Ae.n 0 x.Ae.n), (V.int .u64) x.C4, (V.int .i64) x.Ie, (Hm 1 (V.int .u64)) x.Ae]) fun l => ⟨dI (at_ l 1), dI (at_ l 2), (Mq dI) (at_ l 3)⟩
abbrev w_f6_3 (x : X_f6_3) : (Ar Int) := (x.Ae)
abbrev w_f6_5 (x : X_f6_5) : (Ar Int) := (x.Ae)
def tt_f6_5 (D_f6_5 : AV X_f6_5 RR_f6) (x : X_f6_5) : TT Tryz.prog RR_f6 :=
 (.ite (Bu x.Ie ((x.Ae.n : Nat) : Int))
 (.need (BA x.Ie x.Ae.n) <|
 (.need ((Nat.beq x.Ae.n x.Ae.n) && true) <|
 (.Ac S_f6_5 D_f6_5 (X_f6_5.mk (MH x.C4 (x.Ae.get ((0 : Nat) + (Int.toNat x.Ie)))) (IntKind.i64.wrap (x.Ie + 1)) x.Ae))))
 (.ret (x.C4, x.Ae)))
theorem sd_f6_5 (D_f6_5 : AV X_f6_5 RR_f6) (x : X_f6_5) : (tt_f6_5 D_f6_5 x).AH :=
 (TT.sI (TT.sN (TT.sN TT.sJ)) TT.sR)
theorem roT_f6_5 (D_f6_5 : AV X_f6_5 RR_f6) (r5 : ∀ x y, D_f6_5.rel x y → p_f6 y = w_f6_5 x) (x : X_f6_5) : TT.Ro p_f6 (w_f6_5 x) (tt_f6_5 D_f6_5 x) :=
 (TT.rI (TT.rN (TT.rN (TT.rJ (r5 _)))) (TT.rR rfl))
def D_f6_5 : AV X_f6_5 RR_f6 := AV.loop tt_f6_5
theorem ok_f6_5 : AZ J_f6 S_f6_5 D_f6_5 :=
 BF fun D_f6_5 h_5 => lk mxk (lbc h_5 rfl lbn) (sd_f6_5 D_f6_5)
theorem ro_f6_5 : ∀ x y, D_f6_5.rel x y → p_f6 y = w_f6_5 x :=
 G1 fun D_f6_5 r5 => roT_f6_5 D_f6_5 r5
def tt_f6_3 (x : X_f6_3) : TT Tryz.prog RR_f6 :=
 (.need (BA 0 x.Ae.n) <|
 (.need ((Nat.beq x.Ae.n x.Ae.n) && true) <|
 (.Ac S_f6_5 D_f6_5 (X_f6_5.mk (x.Ae.get ((0 : Nat) + (Int.toNat 0))) 1 x.Ae))))
theorem sd_f6_3 (x : X_f6_3) : (tt_f6_3 x).AH :=
 (TT.sN (TT.sN TT.sJ))
theorem roT_f6_3 (x : X_f6_3) : TT.Ro p_f6 (w_f6_3 x) (tt_f6_3 x) :=
 (TT.rN (TT.rN (TT.rJ (ro_f6_5 _))))
def D_f6_3 : AV X_f6_3 RR_f6 := .of tt_f6_3
theorem ok_f6_3 : AZ J_f6 S_f6_3 D_f6_3 :=
 lk mxk (lbc ok_f6_5 rfl lbn) sd_f6_3
theorem ro_f6_3 : ∀ x y, D_f6_3.rel x y → p_f6 y = w_f6_3 x :=
 roT_f6_3 
def tt_f6 (x : X_f6) : TT Tryz.prog RR_f6 :=
 (.ite (Bu ((x.n : Nat) : Int) 1)
 .fail
 (.Ac S_f6_3 D_f6_3 (X_f6_3.mk x)))
theorem sd_f6 (x : X_f6) : (tt_f6 x).AH :=
 (TT.sI TT.SD TT.sJ)
theorem roT_f6 (x : X_f6) : TT.Ro p_f6 (w_f6 x) (tt_f6 x) :=
 (TT.rI TT.RG (TT.rJ (ro_f6_3 _)))
def D_f6 : AV X_f6 R_f6 := .ro (.of tt_f6) (fun y => (y.1)) (fun y x => (y, x)) fun x y h => congrArg (fun o => (y.1, o)) (roT_f6 x y h)
def con_f6 : BC Tryz.prog :=
 Cb 104 J_f6 S_f6 (.of tt_f6) D_f6 (fun y x => (y, x)) (fun y => (V.int .u64) y) 1 1 [.any] (lk mxk (lbc ok_f6_5 rfl (lbc ok_f6_3 rfl lbn)) sd_f6) (fun x => ⟨(fun _ _ => trivial : ∀ y, ((Hm 1 (V.int .u64)) y).CB) (x), trivial⟩)
abbrev X_f16 : Type := TRc
abbrev R_f16 : Type := Int
abbrev RR_f16 : Type := Int × TRc
abbrev p_f16 (y : RR_f16) : TRc := y.2
abbrev w_f16 (x : X_f16) : TRc := x
def J_f16 : BH Tryz.prog :=
 BR Tryz.prog Tryz.f79 8 [] [] [] [.back (.loc 6 0)] [.any] [sh_TRc] [con_f6] RR_f16 [] fun y => [(V.int .u64) y.1, e_TRc y.2]
def S_f16 : AR :=
 Aj Tryz.f79 1 1 X_f16 (fun x => [(V.ptr (.par 0) []), e_TRc x]) fun l => (d_TRc (at_ l 1))
def tt_f16 (x : X_f16) : TT Tryz.prog RR_f16 :=
 (.call con_f6 (Ar.mk x.AB.n x.AB.get) fun (y1 : R_f6) =>
 (.need ((true && true) && (Nat.beq x.AB.n x.AB.n)) <|
 (.ret (y1, x))))
theorem sd_f16 (x : X_f16) : (tt_f16 x).AH :=
 (TT.sC fun _ => (TT.sN TT.sR))
theorem roT_f16 (x : X_f16) : TT.Ro p_f16 (w_f16 x) (tt_f16 x) :=
 (TT.rC fun _ => (TT.rN (TT.rR rfl)))
def D_f16 : AV X_f16 R_f16 := .ro (.of tt_f16) (fun y => (y.1)) (fun y x => (y, x)) fun x y h => congrArg (fun o => (y.1, o)) (roT_f16 x y h)
def con_f16 : BC Tryz.prog :=
 Cb 79 J_f16 S_f16 (.of tt_f16) D_f16 (fun y x => (y, x)) (fun y => (V.int .u64) y) 1 1 [.any] (lk mxk lbn sd_f16) (fun x => ⟨(nu_e_TRc : ∀ y, (e_TRc y).CB) (x), trivial⟩)
abbrev X_f1b : Type := TRr
abbrev R_f1b : Type := Bool
abbrev RR_f1b : Type := Bool × TRr
abbrev p_f1b (y : RR_f1b) : TRr := y.2
abbrev w_f1b (x : X_f1b) : TRr := x
def J_f1b : BH Tryz.prog :=
 BR Tryz.prog Tryz.f54 22 [] [] [] [] [.any] [sh_TRr] [con_f16] RR_f1b [] fun y => [V.bool y.1, e_TRr y.2]
def S_f1b : AR :=
 Aj Tryz.f54 1 1 X_f1b (fun x => [(V.ptr (.par 0) []), e_TRr x]) fun l => (d_TRr (at_ l 1))
def tt_f1b (x : X_f1b) : TT Tryz.prog RR_f1b :=
 (.call con_f16 x.AA fun (y1 : R_f16) =>
 (.ret ((Bh x.most (IntKind.u64.wrap (x.AA.tail - y1))), x)))
theorem sd_f1b (x : X_f1b) : (tt_f1b x).AH :=
 (TT.sC fun _ => TT.sR)
theorem roT_f1b (x : X_f1b) : TT.Ro p_f1b (w_f1b x) (tt_f1b x) :=
 (TT.rC fun _ => (TT.rR rfl))
def D_f1b : AV X_f1b R_f1b := .ro (.of tt_f1b) (fun y => (y.1)) (fun y x => (y, x)) fun x y h => congrArg (fun o => (y.1, o)) (roT_f1b x y h)
def con_f1b : BC Tryz.prog :=
 Cb 54 J_f1b S_f1b (.of tt_f1b) D_f1b (fun y x => (y, x)) (fun y => V.bool y) 1 1 [.any] (lk mxk lbn sd_f1b) (fun x => ⟨(nu_e_TRr : ∀ y, (e_TRr y).CB) (x), trivial⟩)
abbrev X_fp : Type := Int × TRc
abbrev R_fp : Type := Bool
abbrev RR_fp : Type := Bool × TRc
abbrev p_fp (y : RR_fp) : TRc := y.2
abbrev w_fp (x : X_fp) : TRc := x.2
def J_fp : BH Tryz.prog :=
 BR Tryz.prog Tryz.f76 16 [] [] [] [.back (.loc 12 0)] [.any] [sh_TRc] [] RR_fp [] fun y => [V.bool y.1, e_TRc y.2]
def S_fp : AR :=
 Aj Tryz.f76 2 1 X_fp (fun x => [(V.ptr (.par 0) []), (V.int .i64) x.1, e_TRc x.2]) fun l => (dI (at_ l 1), d_TRc (at_ l 2))
def tt_fp (x : X_fp) : TT Tryz.prog RR_fp :=
 (.ite (Bh 0 x.fst)
 (.need ((true && true) && (Nat.beq x.snd.AB.n x.snd.AB.n)) <|
 (.ret ((Bu x.fst ((x.snd.AB.n : Nat) : Int)), x.snd)))
 (.ret (false, x.snd)))
theorem sd_fp (x : X_fp) : (tt_fp x).AH :=
 (TT.sI (TT.sN TT.sR) TT.sR)
theorem roT_fp (x : X_fp) : TT.Ro p_fp (w_fp x) (tt_fp x) :=
 (TT.rI (TT.rN (TT.rR rfl)) (TT.rR rfl))
def D_fp : AV X_fp R_fp := .ro (.of tt_fp) (fun y => (y.1)) (fun y x => (y, x.2)) fun x y h => congrArg (fun o => (y.1, o)) (roT_fp x y h)
def con_fp : BC Tryz.prog :=
 Cb 76 J_fp S_fp (.of tt_fp) D_fp (fun y x => (y, x.2)) (fun y => V.bool y) 2 1 [.any, .any] (lk mxk lbn sd_fp) (fun x => ⟨(nu_e_TRc : ∀ y, (e_TRc y).CB) (x.2), trivial⟩)
structure TRc_L1 where
 tail : Int
 AB : Ln
def d_TRc_L1 (v : V) : TRc_L1 :=
 ⟨dI (fd v 0), Pa (fd v 1)⟩
def e_TRc_L1_1 (x : TRc_L1) : V :=
 V.cons ((V.int .u64) x.tail) (V.cons ((eLn (.par 1) 36 1) x.AB) (V.unit))
theorem nu_e_TRc_L1_1 (x : TRc_L1) : (e_TRc_L1_1 x).CB := ⟨trivial, trivial, trivial⟩
abbrev X_ft : Type := Int × TRc_L1 × (Ar Int)
abbrev R_ft : Type := Bool
abbrev RR_ft : Type := Bool × TRc_L1 × (Ar Int)
abbrev p_ft (y : RR_ft) : TRc_L1 × (Ar Int) := y.2
abbrev w_ft (x : X_ft) : TRc_L1 × (Ar Int) := x.2
def J_ft : BH Tryz.prog :=
 BR Tryz.prog Tryz.f76 16 [] [] [] [] [.any] [.any, .any] [] RR_ft [] fun y => [V.bool y.1, e_TRc_L1_1 y.2.1, (Hm 1 (V.int .u64)) y.2.2]
def S_ft : AR :=
 Aj Tryz.f76 2 2 X_ft (fun x => [(V.ptr (.par 0) []), (V.int .i64) x.1, e_TRc_L1_1 x.2.1, (Hm 1 (V.int .u64)) x.2.2]) fun l => (dI (at_ l 1), d_TRc_L1 (at_ l 2), (Mq dI) (at_ l 3))
def tt_ft (x : X_ft) : TT Tryz.prog RR_ft :=
 (.ite (Bh 0 x.fst)
 (.ret ((Bu x.fst ((x.snd.fst.AB.n : Nat) : Int)), x.snd))
 (.ret (false, x.snd)))
theorem sd_ft (x : X_ft) : (tt_ft x).AH :=
 (TT.sI TT.sR TT.sR)
theorem roT_ft (x : X_ft) : TT.Ro p_ft (w_ft x) (tt_ft x) :=
 (TT.rI (TT.rR rfl) (TT.rR rfl))
def D_ft : AV X_ft R_ft := .ro (.of tt_ft) (fun y => (y.1)) (fun y x => (y, x.2)) fun x y h => congrArg (fun o => (y.1, o)) (roT_ft x y h)
def con_ft : BC Tryz.prog :=
 Cb 76 J_ft S_ft (.of tt_ft) D_ft (fun y x => (y, x.2)) (fun y => V.bool y) 2 2 [.any, .any] (lk mxk lbn sd_ft) (fun x => ⟨(nu_e_TRc_L1_1 : ∀ y, (e_TRc_L1_1 y).CB) (x.2.1), (fun _ _ => trivial : ∀ y, ((Hm 1 (V.int .u64)) y).CB) (x.2.2), trivial⟩)
abbrev X_f15 : Type := Int × TRr
abbrev R_f15 : Type := Bool
abbrev RR_f15 : Type := Bool × TRr
abbrev p_f15 (y : RR_f15) : TRr := y.2
abbrev w_f15 (x : X_f15) : TRr := x.2
def J_f15 : BH Tryz.prog :=
 BR Tryz.prog Tryz.f55 31 [] [] [(1, [.Gb (.par 0) [.BN 0 0, .BN 1 1] 12, .Gb (.par 0) [.BN 0 0, .BN 1 1] 19])] [.back (.loc 19 0), .back (.loc 12 0)] [.any] [sh_TRr] [con_ft] RR_f15 [(0, [⟨.loc 12 0, .par 0, [.BN 0 0, .BN 1 1], none, none⟩, ⟨.loc 19 0, .par 0, [.BN 0 0, .BN 1 1], none, none⟩])] fun y => [V.bool y.1, e_TRr y.2]
def S_f15 : AR :=
 Aj Tryz.f55 2 1 X_f15 (fun x => [(V.ptr (.par 0) []), (V.int .i64) x.1, e_TRr x.2]) fun l => (dI (at_ l 1), d_TRr (at_ l 2))
def tt_f15 (x : X_f15) : TT Tryz.prog RR_f15 :=
 (.call con_ft (x.fst, ((TRc_L1.mk x.snd.AA.tail (Ln.mk x.snd.AA.AB.nil x.snd.AA.AB.n)), (Ar.mk x.snd.AA.AB.n x.snd.AA.AB.get))) fun (y1 : R_ft) =>
 (.ite (!y1)
 (.need ((true && true) && (Nat.beq x.snd.AA.AB.n x.snd.AA.AB.n)) <|
 (.ret (true, x.snd)))
 (.need (BA x.fst x.snd.AA.AB.n) <|
 (.need ((Nat.beq x.snd.AA.AB.n x.snd.AA.AB.n) && true) <|
 (.need ((true && true) && (Nat.beq x.snd.AA.AB.n x.snd.AA.AB.n)) <|
 (.ret ((Ad (x.snd.AA.AB.get ((0 : Nat) + (Int.toNat x.fst))) x.snd.AA.tail), x.snd)))))))
theorem sd_f15 (x : X_f15) : (tt_f15 x).AH :=
 (TT.sC fun _ => (TT.sI (TT.sN TT.sR) (TT.sN (TT.sN (TT.sN TT.sR)))))
theorem roT_f15 (x : X_f15) : TT.Ro p_f15 (w_f15 x) (tt_f15 x) :=
 (TT.rC fun _ => (TT.rI (TT.rN (TT.rR rfl)) (TT.rN (TT.rN (TT.rN (TT.rR rfl))))))
def D_f15 : AV X_f15 R_f15 := .ro (.of tt_f15) (fun y => (y.1)) (fun y x => (y, x.2)) fun x y h => congrArg (fun o => (y.1, o)) (roT_f15 x y h)
def con_f15 : BC Tryz.prog :=
 Cb 55 J_f15 S_f15 (.of tt_f15) D_f15 (fun y x => (y, x.2)) (fun y => V.bool y) 2 1 [.any, .any] (lk mxk lbn sd_f15) (fun x => ⟨(nu_e_TRr : ∀ y, (e_TRr y).CB) (x.2), trivial⟩)
abbrev X_fy : Type := TAk × TFa
abbrev R_fy : Type := Bool
abbrev RR_fy : Type := Bool × TFa
abbrev p_fy (y : RR_fy) : TFa := y.2
abbrev w_fy (x : X_fy) : TFa := x.2
def J_fy : BH Tryz.prog :=
 BR Tryz.prog Tryz.f29 27 [(3, 3)] [] [(1, [.Gb (.par 0) [.BN 2 3] 9])] [.back (.loc 13 0), .back (.loc 9 0)] [.any] [sh_TFa] [con_f14, con_f15, con_f1b] RR_fy [(0, [⟨.loc 9 0, .par 0, [.BN 2 3], none, none⟩])] fun y => [V.bool y.1, e_TFa y.2]
def S_fy : AR :=
 Aj Tryz.f29 2 1 X_fy (fun x => [(V.ptr (.par 0) []), e_TAk x.1, e_TFa x.2]) fun l => (d_TAk (at_ l 1), d_TFa (at_ l 2))
def tt_fy (x : X_fy) : TT Tryz.prog RR_fy :=
 (.need (BA x.fst.Ring x.snd.rings.n) <|
 (.need (((Nat.beq x.snd.rings.n x.snd.rings.n) && true) && (!(x.snd.rings.get ((0 : Nat) + (Int.toNat x.fst.Ring))).nil)) <|
 (.ite (Ad x.fst.Kind 1)
 (.call con_f14 (x.snd.rings.get ((0 : Nat) + (Int.toNat x.fst.Ring))).x fun (y1 : R_f14) =>
 (.ite y1
 (.need ((true && true) && (((Nat.beq x.snd.rings.n x.snd.rings.n) && (Nat.blt ((0 : Nat) + (Int.toNat x.fst.Ring)) x.snd.rings.n)) && (!(x.snd.rings.get ((0 : Nat) + (Int.toNat x.fst.Ring))).nil))) <|
 (.side (((fun v : Nat → V => v = v) (fun i2 => (cond (Nat.beq i2 ((0 : Nat) + (Int.toNat x.fst.Ring))) (V.ptr (Id.loc 13 0) List.nil) (V.Aa (x.snd.rings.get i2).nil (V.cons (V.cons (V.int IntKind.u64 (x.snd.rings.get i2).x.AA.tail) (V.cons (V.Aq 36 1 (x.snd.rings.get i2).x.AA.AB.nil (x.snd.rings.get i2).x.AA.AB.n (fun i3 => (V.int IntKind.u64 ((x.snd.rings.get i2).x.AA.AB.get i3)))) V.unit)) (V.cons (V.Aa (x.snd.rings.get i2).x.s.nil (V.cons (V.Aq 115 3 (x.snd.rings.get i2).x.s.x.l.nil (x.snd.rings.get i2).x.s.x.l.n (fun i3 => (V.cons (V.int IntKind.u64 ((x.snd.rings.get i2).x.s.x.l.get i3).AQ) (V.cons (V.int IntKind.u64 ((x.snd.rings.get i2).x.s.x.l.get i3).Value) (V.cons (V.int IntKind.i64 ((x.snd.rings.get i2).x.s.x.l.get i3).Left) V.unit))))) (V.cons (V.int IntKind.i64 (x.snd.rings.get i2).x.s.x.AP) V.unit))) (V.cons (V.int IntKind.u64 (x.snd.rings.get i2).x.most) (V.cons (V.bool (x.snd.rings.get i2).x.closed) V.unit)))))))) ∧ (((fun v : V => v = v) (V.cons (V.cons (V.int IntKind.u64 (x.snd.rings.get ((0 : Nat) + (Int.toNat x.fst.Ring))).x.AA.tail) (V.cons (V.Aq 36 1 (x.snd.rings.get ((0 : Nat) + (Int.toNat x.fst.Ring))).x.AA.AB.nil (x.snd.rings.get ((0 : Nat) + (Int.toNat x.fst.Ring))).x.AA.AB.n (fun i2 => (V.int IntKind.u64 ((x.snd.rings.get ((0 : Nat) + (Int.toNat x.fst.Ring))).x.AA.AB.get i2)))) V.unit)) (V.cons (V.Aa (x.snd.rings.get ((0 : Nat) + (Int.toNat x.fst.Ring))).x.s.nil (V.cons (V.Aq 115 3 (x.snd.rings.get ((0 : Nat) + (Int.toNat x.fst.Ring))).x.s.x.l.nil (x.snd.rings.get ((0 : Nat) + (Int.toNat x.fst.Ring))).x.s.x.l.n (fun i2 => (V.cons (V.int IntKind.u64 ((x.snd.rings.get ((0 : Nat) + (Int.toNat x.fst.Ring))).x.s.x.l.get i2).AQ) (V.cons (V.int IntKind.u64 ((x.snd.rings.get ((0 : Nat) + (Int.toNat x.fst.Ring))).x.s.x.l.get i2).Value) (V.cons (V.int IntKind.i64 ((x.snd.rings.get ((0 : Nat) + (Int.toNat x.fst.Ring))).x.s.x.l.get i2).Left) V.unit))))) (V.cons (V.int IntKind.i64 (x.snd.rings.get ((0 : Nat) + (Int.toNat x.fst.Ring))).x.s.x.AP) V.unit))) (V.cons (V.int IntKind.u64 (x.snd.rings.get ((0 : Nat) + (Int.toNat x.fst.Ring))).x.most) (V.cons (V.bool (x.snd.rings.get ((0 : Nat) + (Int.toNat x.fst.Ring))).x.closed) V.unit))))) ∧ ((fun v : V => v = v) (V.Aa (x.snd.rings.get ((0 : Nat) + (Int.toNat x.fst.Ring))).nil (V.cons (V.cons (V.int IntKind.u64 (x.snd.rings.get ((0 : Nat) + (Int.toNat x.fst.Ring))).x.AA.tail) (V.cons (V.Aq 36 1 (x.snd.rings.get ((0 : Nat) + (Int.toNat x.fst.Ring))).x.AA.AB.nil (x.snd.rings.get ((0 : Nat) + (Int.toNat x.fst.Ring))).x.AA.AB.n (fun i2 => (V.int IntKind.u64 ((x.snd.rings.get ((0 : Nat) + (Int.toNat x.fst.Ring))).x.AA.AB.get i2)))) V.unit)) (V.cons (V.Aa (x.snd.rings.get ((0 : Nat) + (Int.toNat x.fst.Ring))).x.s.nil (V.cons (V.Aq 115 3 (x.snd.rings.get ((0 : Nat) + (Int.toNat x.fst.Ring))).x.s.x.l.nil (x.snd.rings.get ((0 : Nat) + (Int.toNat x.fst.Ring))).x.s.x.l.n (fun i2 => (V.cons (V.int IntKind.u64 ((x.snd.rings.get ((0 : Nat) + (Int.toNat x.fst.Ring))).x.s.x.l.get i2).AQ) (V.cons (V.int IntKind.u64 ((x.snd.rings.get ((0 : Nat) + (Int.toNat x.fst.Ring))).x.s.x.l.get i2).Value) (V.cons (V.int IntKind.i64 ((x.snd.rings.get ((0 : Nat) + (Int.toNat x.fst.Ring))).x.s.x.l.get i2).Left) V.unit))))) (V.cons (V.int IntKind.i64 (x.snd.rings.get ((0 : Nat) + (Int.toNat x.fst.Ring))).x.s.x.AP) V.unit))) (V.cons (V.int IntKind.u64 (x.snd.rings.get ((0 : Nat) + (Int.toNat x.fst.Ring))).x.most) (V.cons (V.bool (x.snd.rings.get ((0 : Nat) + (Int.toNat x.fst.Ring))).x.closed) V.unit)))))))) <|
 (.need ((true && true) && (Nat.beq x.snd.rings.n x.snd.rings.n)) <|
 (.ret (true, x.snd)))))
 (.call con_f1b (x.snd.rings.get ((0 : Nat) + (Int.toNat x.fst.Ring))).x fun (y2 : R_f1b) =>
 (.need ((true && true) && (((Nat.beq x.snd.rings.n x.snd.rings.n) && (Nat.blt ((0 : Nat) + (Int.toNat x.fst.Ring)) x.snd.rings.n)) && (!(x.snd.rings.get ((0 : Nat) + (Int.toNat x.fst.Ring))).nil))) <|
 (.side (((fun v : Nat → V => v = v) (fun i3 => (cond (Nat.beq i3 ((0 : Nat) + (Int.toNat x.fst.Ring))) (V.ptr (Id.loc 13 0) List.nil) (V.Aa (x.snd.rings.get i3).nil (V.cons (V.cons (V.int IntKind.u64 (x.snd.rings.get i3).x.AA.tail) (V.cons (V.Aq 36 1 (x.snd.rings.get i3).x.AA.AB.nil (x.snd.rings.get i3).x.AA.AB.n (fun i4 => (V.int IntKind.u64 ((x.snd.rings.get i3).x.AA.AB.get i4)))) V.unit)) (V.cons (V.Aa (x.snd.rings.get i3).x.s.nil (V.cons (V.Aq 115 3 (x.snd.rings.get i3).x.s.x.l.nil (x.snd.rings.get i3).x.s.x.l.n (fun i4 => (V.cons (V.int IntKind.u64 ((x.snd.rings.get i3).x.s.x.l.get i4).AQ) (V.cons (V.int IntKind.u64 ((x.snd.rings.get i3).x.s.x.l.get i4).Value) (V.cons (V.int IntKind.i64 ((x.snd.rings.get i3).x.s.x.l.get i4).Left) V.unit))))) (V.cons (V.int IntKind.i64 (x.snd.rings.get i3).x.s.x.AP) V.unit))) (V.cons (V.int IntKind.u64 (x.snd.rings.get i3).x.most) (V.cons (V.bool (x.snd.rings.get i3).x.closed) V.unit)))))))) ∧ (((fun v : V => v = v) (V.cons (V.cons (V.int IntKind.u64 (x.snd.rings.get ((0 : Nat) + (Int.toNat x.fst.Ring))).x.AA.tail) (V.cons (V.Aq 36 1 (x.snd.rings.get ((0 : Nat) + (Int.toNat x.fst.Ring))).x.AA.AB.nil (x.snd.rings.get ((0 : Nat) + (Int.toNat x.fst.Ring))).x.AA.AB.n (fun i3 => (V.int IntKind.u64 ((x.snd.rings.get ((0 : Nat) + (Int.toNat x.fst.Ring))).x.AA.AB.get i3)))) V.unit)) (V.cons (V.Aa (x.snd.rings.get ((0 : Nat) + (Int.toNat x.fst.Ring))).x.s.nil (V.cons (V.Aq 115 3 (x.snd.rings.get ((0 : Nat) + (Int.toNat x.fst.Ring))).x.s.x.l.nil (x.snd.rings.get ((0 : Nat) + (Int.toNat x.fst.Ring))).x.s.x.l.n (fun i3 => (V.cons (V.int IntKind.u64 ((x.snd.rings.get ((0 : Nat) + (Int.toNat x.fst.Ring))).x.s.x.l.get i3).AQ) (V.cons (V.int IntKind.u64 ((x.snd.rings.get ((0 : Nat) + (Int.toNat x.fst.Ring))).x.s.x.l.get i3).Value) (V.cons (V.int IntKind.i64 ((x.snd.rings.get ((0 : Nat) + (Int.toNat x.fst.Ring))).x.s.x.l.get i3).Left) V.unit))))) (V.cons (V.int IntKind.i64 (x.snd.rings.get ((0 : Nat) + (Int.toNat x.fst.Ring))).x.s.x.AP) V.unit))) (V.cons (V.int IntKind.u64 (x.snd.rings.get ((0 : Nat) + (Int.toNat x.fst.Ring))).x.most) (V.cons (V.bool (x.snd.rings.get ((0 : Nat) + (Int.toNat x.fst.Ring))).x.closed) V.unit))))) ∧ ((fun v : V => v = v) (V.Aa (x.snd.rings.get ((0 : Nat) + (Int.toNat x.fst.Ring))).nil (V.cons (V.cons (V.int IntKind.u64 (x.snd.rings.get ((0 : Nat) + (Int.toNat x.fst.Ring))).x.AA.tail) (V.cons (V.Aq 36 1 (x.snd.rings.get ((0 : Nat) + (Int.toNat x.fst.Ring))).x.AA.AB.nil (x.snd.rings.get ((0 : Nat) + (Int.toNat x.fst.Ring))).x.AA.AB.n (fun i3 => (V.int IntKind.u64 ((x.snd.rings.get ((0 : Nat) + (Int.toNat x.fst.Ring))).x.AA.AB.get i3)))) V.unit)) (V.cons (V.Aa (x.snd.rings.get ((0 : Nat) + (Int.toNat x.fst.Ring))).x.s.nil (V.cons (V.Aq 115 3 (x.snd.rings.get ((0 : Nat) + (Int.toNat x.fst.Ring))).x.s.x.l.nil (x.snd.rings.get ((0 : Nat) + (Int.toNat x.fst.Ring))).x.s.x.l.n (fun i3 => (V.cons (V.int IntKind.u64 ((x.snd.rings.get ((0 : Nat) + (Int.toNat x.fst.Ring))).x.s.x.l.get i3).AQ) (V.cons (V.int IntKind.u64 ((x.snd.rings.get ((0 : Nat) + (Int.toNat x.fst.Ring))).x.s.x.l.get i3).Value) (V.cons (V.int IntKind.i64 ((x.snd.rings.get ((0 : Nat) + (Int.toNat x.fst.Ring))).x.s.x.l.get i3).Left) V.unit))))) (V.cons (V.int IntKind.i64 (x.snd.rings.get ((0 : Nat) + (Int.toNat x.fst.Ring))).x.s.x.AP) V.unit))) (V.cons (V.int IntKind.u64 (x.snd.rings.get ((0 : Nat) + (Int.toNat x.fst.Ring))).x.most) (V.cons (V.bool (x.snd.rings.get ((0 : Nat) + (Int.toNat x.fst.Ring))).x.closed) V.unit)))))))) <|
 (.need ((true && true) && (Nat.beq x.snd.rings.n x.snd.rings.n)) <|
 (.ret (y2, x.snd))))))))
 (.call con_f15 (x.fst.Reader, (x.snd.rings.get ((0 : Nat) + (Int.toNat x.fst.Ring))).x) fun (y1 : R_f15) =>
 (.need ((true && true) && (((Nat.beq x.snd.rings.n x.snd.rings.n) && (Nat.blt ((0 : Nat) + (Int.toNat x.fst.Ring)) x.snd.rings.n)) && (!(x.snd.rings.get ((0 : Nat) + (Int.toNat x.fst.Ring))).nil))) <|
 (.side (((fun v : Nat → V => v = v) (fun i2 => (cond (Nat.beq i2 ((0 : Nat) + (Int.toNat x.fst.Ring))) (V.ptr (Id.loc 13 0) List.nil) (V.Aa (x.snd.rings.get i2).nil (V.cons (V.cons (V.int IntKind.u64 (x.snd.rings.get i2).x.AA.tail) (V.cons (V.Aq 36 1 (x.snd.rings.get i2).x.AA.AB.nil (x.snd.rings.get i2).x.AA.AB.n (fun i3 => (V.int IntKind.u64 ((x.snd.rings.get i2).x.AA.AB.get i3)))) V.unit)) (V.cons (V.Aa (x.snd.rings.get i2).x.s.nil (V.cons (V.Aq 115 3 (x.snd.rings.get i2).x.s.x.l.nil (x.snd.rings.get i2).x.s.x.l.n (fun i3 => (V.cons (V.int IntKind.u64 ((x.snd.rings.get i2).x.s.x.l.get i3).AQ) (V.cons (V.int IntKind.u64 ((x.snd.rings.get i2).x.s.x.l.get i3).Value) (V.cons (V.int IntKind.i64 ((x.snd.rings.get i2).x.s.x.l.get i3).Left) V.unit))))) (V.cons (V.int IntKind.i64 (x.snd.rings.get i2).x.s.x.AP) V.unit))) (V.cons (V.int IntKind.u64 (x.snd.rings.get i2).x.most) (V.cons (V.bool (x.snd.rings.get i2).x.closed) V.unit)))))))) ∧ (((fun v : V => v = v) (V.cons (V.cons (V.int IntKind.u64 (x.snd.rings.get ((0 : Nat) + (Int.toNat x.fst.Ring))).x.AA.tail) (V.cons (V.Aq 36 1 (x.snd.rings.get ((0 : Nat) + (Int.toNat x.fst.Ring))).x.AA.AB.nil (x.snd.rings.get ((0 : Nat) + (Int.toNat x.fst.Ring))).x.AA.AB.n (fun i2 => (V.int IntKind.u64 ((x.snd.rings.get ((0 : Nat) + (Int.toNat x.fst.Ring))).x.AA.AB.get i2)))) V.unit)) (V.cons (V.Aa (x.snd.rings.get ((0 : Nat) + (Int.toNat x.fst.Ring))).x.s.nil (V.cons (V.Aq 115 3 (x.snd.rings.get ((0 : Nat) + (Int.toNat x.fst.Ring))).x.s.x.l.nil (x.snd.rings.get ((0 : Nat) + (Int.toNat x.fst.Ring))).x.s.x.l.n (fun i2 => (V.cons (V.int IntKind.u64 ((x.snd.rings.get ((0 : Nat) + (Int.toNat x.fst.Ring))).x.s.x.l.get i2).AQ) (V.cons (V.int IntKind.u64 ((x.snd.rings.get ((0 : Nat) + (Int.toNat x.fst.Ring))).x.s.x.l.get i2).Value) (V.cons (V.int IntKind.i64 ((x.snd.rings.get ((0 : Nat) + (Int.toNat x.fst.Ring))).x.s.x.l.get i2).Left) V.unit))))) (V.cons (V.int IntKind.i64 (x.snd.rings.get ((0 : Nat) + (Int.toNat x.fst.Ring))).x.s.x.AP) V.unit))) (V.cons (V.int IntKind.u64 (x.snd.rings.get ((0 : Nat) + (Int.toNat x.fst.Ring))).x.most) (V.cons (V.bool (x.snd.rings.get ((0 : Nat) + (Int.toNat x.fst.Ring))).x.closed) V.unit))))) ∧ ((fun v : V => v = v) (V.Aa (x.snd.rings.get ((0 : Nat) + (Int.toNat x.fst.Ring))).nil (V.cons (V.cons (V.int IntKind.u64 (x.snd.rings.get ((0 : Nat) + (Int.toNat x.fst.Ring))).x.AA.tail) (V.cons (V.Aq 36 1 (x.snd.rings.get ((0 : Nat) + (Int.toNat x.fst.Ring))).x.AA.AB.nil (x.snd.rings.get ((0 : Nat) + (Int.toNat x.fst.Ring))).x.AA.AB.n (fun i2 => (V.int IntKind.u64 ((x.snd.rings.get ((0 : Nat) + (Int.toNat x.fst.Ring))).x.AA.AB.get i2)))) V.unit)) (V.cons (V.Aa (x.snd.rings.get ((0 : Nat) + (Int.toNat x.fst.Ring))).x.s.nil (V.cons (V.Aq 115 3 (x.snd.rings.get ((0 : Nat) + (Int.toNat x.fst.Ring))).x.s.x.l.nil (x.snd.rings.get ((0 : Nat) + (Int.toNat x.fst.Ring))).x.s.x.l.n (fun i2 => (V.cons (V.int IntKind.u64 ((x.snd.rings.get ((0 : Nat) + (Int.toNat x.fst.Ring))).x.s.x.l.get i2).AQ) (V.cons (V.int IntKind.u64 ((x.snd.rings.get ((0 : Nat) + (Int.toNat x.fst.Ring))).x.s.x.l.get i2).Value) (V.cons (V.int IntKind.i64 ((x.snd.rings.get ((0 : Nat) + (Int.toNat x.fst.Ring))).x.s.x.l.get i2).Left) V.unit))))) (V.cons (V.int IntKind.i64 (x.snd.rings.get ((0 : Nat) + (Int.toNat x.fst.Ring))).x.s.x.AP) V.unit))) (V.cons (V.int IntKind.u64 (x.snd.rings.get ((0 : Nat) + (Int.toNat x.fst.Ring))).x.most) (V.cons (V.bool (x.snd.rings.get ((0 : Nat) + (Int.toNat x.fst.Ring))).x.closed) V.unit)))))))) <|
 (.need ((true && true) && (Nat.beq x.snd.rings.n x.snd.rings.n)) <|
 (.ret (y1, x.snd)))))))))
theorem sd_fy (x : X_fy) : (tt_fy x).AH :=
 (TT.sN (TT.sN (TT.sI (TT.sC fun _ => (TT.sI (TT.sN (TT.sS ⟨rfl, ⟨rfl, rfl⟩⟩ (TT.sN TT.sR))) (TT.sC fun _ => (TT.sN (TT.sS ⟨rfl, ⟨rfl, rfl⟩⟩ (TT.sN TT.sR)))))) (TT.sC fun _ => (TT.sN (TT.sS ⟨rfl, ⟨rfl, rfl⟩⟩ (TT.sN TT.sR)))))))
theorem roT_fy (x : X_fy) : TT.Ro p_fy (w_fy x) (tt_fy x) :=
 (TT.rN (TT.rN (TT.rI (TT.rC fun _ => (TT.rI (TT.rN (TT.rS (TT.rN (TT.rR rfl)))) (TT.rC fun _ => (TT.rN (TT.rS (TT.rN (TT.rR rfl))))))) (TT.rC fun _ => (TT.rN (TT.rS (TT.rN (TT.rR rfl))))))))
def D_fy : AV X_fy R_fy := .ro (.of tt_fy) (fun y => (y.1)) (fun y x => (y, x.2)) fun x y h => congrArg (fun o => (y.1, o)) (roT_fy x y h)
def con_fy : BC Tryz.prog :=
 Cb 29 J_fy S_fy (.of tt_fy) D_fy (fun y x => (y, x.2)) (fun y => V.bool y) 2 1 [.any, .any] (lk mxk lbn sd_fy) (fun x => ⟨(nu_e_TFa : ∀ y, (e_TFa y).CB) (x.2), trivial⟩)
abbrev X_f1k : Type := TRr
abbrev R_f1k : Type := Int
abbrev RR_f1k : Type := Int × TRr
abbrev p_f1k (y : RR_f1k) : TRr := y.2
abbrev w_f1k (x : X_f1k) : TRr := x
def J_f1k : BH Tryz.prog :=
 BR Tryz.prog Tryz.f56 10 [] [] [] [] [.any] [sh_TRr] [] RR_f1k [] fun y => [(V.int .u64) y.1, e_TRr y.2]
def S_f1k : AR :=
 Aj Tryz.f56 1 1 X_f1k (fun x => [(V.ptr (.par 0) []), e_TRr x]) fun l => (d_TRr (at_ l 1))
def tt_f1k (x : X_f1k) : TT Tryz.prog RR_f1k :=
 (.ret (x.AA.tail, x))
theorem sd_f1k (x : X_f1k) : (tt_f1k x).AH :=
 TT.sR
theorem roT_f1k (x : X_f1k) : TT.Ro p_f1k (w_f1k x) (tt_f1k x) :=
 (TT.rR rfl)
def D_f1k : AV X_f1k R_f1k := .ro (.of tt_f1k) (fun y => (y.1)) (fun y x => (y, x)) fun x y h => congrArg (fun o => (y.1, o)) (roT_f1k x y h)
def con_f1k : BC Tryz.prog :=
 Cb 56 J_f1k S_f1k (.of tt_f1k) D_f1k (fun y x => (y, x)) (fun y => (V.int .u64) y) 1 1 [.any] (lk mxk lbn sd_f1k) (fun x => ⟨(nu_e_TRr : ∀ y, (e_TRr y).CB) (x), trivial⟩)
structure TSs_L0 where
 l : Ln
 AP : Int
def d_TSs_L0 (v : V) : TSs_L0 :=
 ⟨Pa (fd v 0), dI (fd v 1)⟩
def e_TSs_L0_1 (x : TSs_L0) : V :=
 V.cons ((eLn (.par 1) 115 3) x.l) (V.cons ((V.int .i64) x.AP) (V.unit))
theorem nu_e_TSs_L0_1 (x : TSs_L0) : (e_TSs_L0_1 x).CB := ⟨trivial, trivial, trivial⟩
abbrev X_fm : Type := Int × TSs_L0 × (Ar TSo)
abbrev R_fm : Type := (Nat × Nat)
abbrev RR_fm : Type := (Nat × Nat) × TSs_L0 × (Ar TSo)
abbrev p_fm (y : RR_fm) : TSs_L0 × (Ar TSo) := y.2
abbrev w_fm (x : X_fm) : TSs_L0 × (Ar TSo) := x.2
def J_fm : BH Tryz.prog :=
 BR Tryz.prog Tryz.f97 18 [] [] [] [.D8 4] [.any] [.any, .any] [] RR_fm [] fun y => [(ePt 1 3) y.1, e_TSs_L0_1 y.2.1, (Hm 3 e_TSo) y.2.2]
def S_fm : AR :=
 Aj Tryz.f97 2 2 X_fm (fun x => [(V.ptr (.par 0) []), (V.int .u64) x.1, e_TSs_L0_1 x.2.1, (Hm 3 e_TSo) x.2.2]) fun l => (dI (at_ l 1), d_TSs_L0 (at_ l 2), (Mq d_TSo) (at_ l 3))
def tt_fm (x : X_fm) : TT Tryz.prog RR_fm :=
 (.need (!(Ad (IntKind.u64.wrap ((x.snd.fst.l.n : Nat) : Int)) 0)) <|
 (.need (BA (Int.tmod x.fst (IntKind.u64.wrap ((x.snd.fst.l.n : Nat) : Int))) x.snd.fst.l.n) <|
 (.ret ((((0 : Nat) + (Int.toNat (Int.tmod x.fst (IntKind.u64.wrap ((x.snd.fst.l.n : Nat) : Int))))), x.snd.fst.l.n), (x.snd.fst, x.snd.snd)))))
theorem sd_fm (x : X_fm) : (tt_fm x).AH :=
 (TT.sN (TT.sN TT.sR))
theorem roT_fm (x : X_fm) : TT.Ro p_fm (w_fm x) (tt_fm x) :=
 (TT.rN (TT.rN (TT.rR rfl)))
def D_fm : AV X_fm R_fm := .ro (.of tt_fm) (fun y => (y.1)) (fun y x => (y, x.2)) fun x y h => congrArg (fun o => (y.1, o)) (roT_fm x y h)
def con_fm : BC Tryz.prog :=
 Cb 97 J_fm S_fm (.of tt_fm) D_fm (fun y x => (y, x.2)) (fun y => (ePt 1 3) y) 2 2 [.any, .any] (lk mxk lbn sd_fm) (fun x => ⟨(nu_e_TSs_L0_1 : ∀ y, (e_TSs_L0_1 y).CB) (x.2.1), (fun _ _ => (nu_e_TSo) _ : ∀ y, ((Hm 3 e_TSo) y).CB) (x.2.2), trivial⟩)
abbrev X_f1f : Type := Int × TSs
abbrev R_f1f : Type := Bool
abbrev RR_f1f : Type := Bool × TSs
abbrev p_f1f (y : RR_f1f) : TSs := y.2
abbrev w_f1f (x : X_f1f) : TSs := x.2
def J_f1f : BH Tryz.prog :=
 BR Tryz.prog Tryz.f80 22 [] [] [(1, [.Gb (.par 0) [.BN 0 0] 14])] [.back (.loc 14 0)] [.any] [sh_TSs] [con_fm, con_f25] RR_f1f [(0, [⟨.loc 14 0, .par 0, [.BN 0 0], none, none⟩])] fun y => [V.bool y.1, e_TSs y.2]
def S_f1f : AR :=
 Aj Tryz.f80 2 1 X_f1f (fun x => [(V.ptr (.par 0) []), (V.int .u64) x.1, e_TSs x.2]) fun l => (dI (at_ l 1), d_TSs (at_ l 2))
def tt_f1f (x : X_f1f) : TT Tryz.prog RR_f1f :=
 (.ite (Bu x.fst 4611686018427387904)
 (.call con_fm (x.fst, ((TSs_L0.mk (Ln.mk x.snd.l.nil x.snd.l.n) x.snd.AP), (Ar.mk x.snd.l.n x.snd.l.get))) fun (y1 : R_fm) =>
 (.need ((Nat.beq x.snd.l.n y1.snd) && true) <|
 (.call con_f25 x.fst fun (y2 : R_f25) =>
 (.need ((true && true) && (Nat.beq x.snd.l.n x.snd.l.n)) <|
 (.ret ((Ad (x.snd.l.get y1.fst).AQ y2), x.snd))))))
 (.need ((true && true) && (Nat.beq x.snd.l.n x.snd.l.n)) <|
 (.ret (false, x.snd))))
theorem sd_f1f (x : X_f1f) : (tt_f1f x).AH :=
 (TT.sI (TT.sC fun _ => (TT.sN (TT.sC fun _ => (TT.sN TT.sR)))) (TT.sN TT.sR))
theorem roT_f1f (x : X_f1f) : TT.Ro p_f1f (w_f1f x) (tt_f1f x) :=
 (TT.rI (TT.rC fun _ => (TT.rN (TT.rC fun _ => (TT.rN (TT.rR rfl))))) (TT.rN (TT.rR rfl)))
def D_f1f : AV X_f1f R_f1f := .ro (.of tt_f1f) (fun y => (y.1)) (fun y x => (y, x.2)) fun x y h => congrArg (fun o => (y.1, o)) (roT_f1f x y h)
def con_f1f : BC Tryz.prog :=
 Cb 80 J_f1f S_f1f (.of tt_f1f) D_f1f (fun y x => (y, x.2)) (fun y => V.bool y) 2 1 [.any, .any] (lk mxk lbn sd_f1f) (fun x => ⟨(nu_e_TSs : ∀ y, (e_TSs y).CB) (x.2), trivial⟩)
abbrev X_f1t : Type := Int × TRr
abbrev R_f1t : Type := Bool
abbrev RR_f1t : Type := Bool × TRr
abbrev p_f1t (y : RR_f1t) : TRr := y.2
abbrev w_f1t (x : X_f1t) : TRr := x.2
def J_f1t : BH Tryz.prog :=
 BR Tryz.prog Tryz.f57 24 [] [] [] [.back (.loc 20 0)] [.any] [sh_TRr] [con_f1f] RR_f1t [] fun y => [V.bool y.1, e_TRr y.2]
def S_f1t : AR :=
 Aj Tryz.f57 2 1 X_f1t (fun x => [(V.ptr (.par 0) []), (V.int .u64) x.1, e_TRr x.2]) fun l => (dI (at_ l 1), d_TRr (at_ l 2))
def tt_f1t (x : X_f1t) : TT Tryz.prog RR_f1t :=
 (.ite (Bu x.fst x.snd.AA.tail)
 (.need (true && (!x.snd.s.nil)) <|
 (.call con_f1f (x.fst, x.snd.s.x) fun (y1 : R_f1f) =>
 (.need ((true && true) && (!x.snd.s.nil)) <|
 (.side ((fun v : V => v = v) (V.cons (V.Aq 115 3 x.snd.s.x.l.nil x.snd.s.x.l.n (fun i2 => (V.cons (V.int IntKind.u64 (x.snd.s.x.l.get i2).AQ) (V.cons (V.int IntKind.u64 (x.snd.s.x.l.get i2).Value) (V.cons (V.int IntKind.i64 (x.snd.s.x.l.get i2).Left) V.unit))))) (V.cons (V.int IntKind.i64 x.snd.s.x.AP) V.unit))) <|
 (.ret (y1, x.snd))))))
 (.ret (false, x.snd)))
theorem sd_f1t (x : X_f1t) : (tt_f1t x).AH :=
 (TT.sI (TT.sN (TT.sC fun _ => (TT.sN (TT.sS rfl TT.sR)))) TT.sR)
theorem roT_f1t (x : X_f1t) : TT.Ro p_f1t (w_f1t x) (tt_f1t x) :=
 (TT.rI (TT.rN (TT.rC fun _ => (TT.rN (TT.rS (TT.rR rfl))))) (TT.rR rfl))
def D_f1t : AV X_f1t R_f1t := .ro (.of tt_f1t) (fun y => (y.1)) (fun y x => (y, x.2)) fun x y h => congrArg (fun o => (y.1, o)) (roT_f1t x y h)
def con_f1t : BC Tryz.prog :=
 Cb 57 J_f1t S_f1t (.of tt_f1t) D_f1t (fun y x => (y, x.2)) (fun y => V.bool y) 2 1 [.any, .any] (lk mxk lbn sd_f1t) (fun x => ⟨(nu_e_TRr : ∀ y, (e_TRr y).CB) (x.2), trivial⟩)
abbrev X_fk : Type := Int × TRr
abbrev R_fk : Type := Int
abbrev RR_fk : Type := Int × TRr
abbrev p_fk (y : RR_fk) : TRr := y.2
abbrev w_fk (x : X_fk) : TRr := x.2
def J_fk : BH Tryz.prog :=
 BR Tryz.prog Tryz.f58 23 [] [] [] [.back (.loc 19 0)] [.any] [sh_TRr] [con_fp] RR_fk [] fun y => [(V.int .u64) y.1, e_TRr y.2]
def S_fk : AR :=
 Aj Tryz.f58 2 1 X_fk (fun x => [(V.ptr (.par 0) []), (V.int .i64) x.1, e_TRr x.2]) fun l => (dI (at_ l 1), d_TRr (at_ l 2))
structure X_fk_3 where
 LV : Int
 Ae : TRr
def S_fk_3 : AR :=
 Ak Tryz.f58 3 (an [0, 1]) [sh_TRr] [] X_fk_3 (fun x => [(V.ptr (.par 0) []), (V.int .i64) x.LV, e_TRr x.Ae]) fun l => ⟨dI (at_ l 1), d_TRr (at_ l 2)⟩
abbrev w_fk_3 (x : X_fk_3) : TRr := (x.Ae)
def tt_fk_3 (x : X_fk_3) : TT Tryz.prog RR_fk :=
 (.need (BA x.LV x.Ae.AA.AB.n) <|
 (.need ((Nat.beq x.Ae.AA.AB.n x.Ae.AA.AB.n) && true) <|
 (.need ((true && true) && (Nat.beq x.Ae.AA.AB.n x.Ae.AA.AB.n)) <|
 (.ret ((x.Ae.AA.AB.get ((0 : Nat) + (Int.toNat x.LV))), x.Ae)))))
theorem sd_fk_3 (x : X_fk_3) : (tt_fk_3 x).AH :=
 (TT.sN (TT.sN (TT.sN TT.sR)))
theorem roT_fk_3 (x : X_fk_3) : TT.Ro p_fk (w_fk_3 x) (tt_fk_3 x) :=
 (TT.rN (TT.rN (TT.rN (TT.rR rfl))))
def D_fk_3 : AV X_fk_3 RR_fk := .of tt_fk_3
theorem ok_fk_3 : AZ J_fk S_fk_3 D_fk_3 :=
 lk mxk lbn sd_fk_3
theorem ro_fk_3 : ∀ x y, D_fk_3.rel x y → p_fk y = w_fk_3 x :=
 roT_fk_3 
def tt_fk (x : X_fk) : TT Tryz.prog RR_fk :=
 (.call con_fp (x.fst, x.snd.AA) fun (y1 : R_fp) =>
 (.ite (!y1)
 (.ret (0, x.snd))
 (.Ac S_fk_3 D_fk_3 (X_fk_3.mk x.fst x.snd))))
theorem sd_fk (x : X_fk) : (tt_fk x).AH :=
 (TT.sC fun _ => (TT.sI TT.sR TT.sJ))
theorem roT_fk (x : X_fk) : TT.Ro p_fk (w_fk x) (tt_fk x) :=
 (TT.rC fun _ => (TT.rI (TT.rR rfl) (TT.rJ (ro_fk_3 _))))
def D_fk : AV X_fk R_fk := .ro (.of tt_fk) (fun y => (y.1)) (fun y x => (y, x.2)) fun x y h => congrArg (fun o => (y.1, o)) (roT_fk x y h)
def con_fk : BC Tryz.prog :=
 Cb 58 J_fk S_fk (.of tt_fk) D_fk (fun y x => (y, x.2)) (fun y => (V.int .u64) y) 2 1 [.any, .any] (lk mxk (lbc ok_fk_3 rfl lbn) sd_fk) (fun x => ⟨(nu_e_TRr : ∀ y, (e_TRr y).CB) (x.2), trivial⟩)
abbrev X_f2h : Type := Int
abbrev R_f2h : Type := Int
def J_f2h : BH Tryz.prog :=
 BR Tryz.prog Tryz.f98 6 [] [] [] [] [.any] [] [] R_f2h [] fun y => [(V.int .u64) y]
def S_f2h : AR :=
 Aj Tryz.f98 1 0 X_f2h (fun x => [(V.int .u64) x]) fun l => (dI (at_ l 0))
def tt_f2h (x : X_f2h) : TT Tryz.prog R_f2h :=
 (.ret (IntKind.u64.wrap ((IntKind.u64.wrap ((2 : Int) * x)) + 1)))
theorem sd_f2h (x : X_f2h) : (tt_f2h x).AH :=
 TT.sR
def D_f2h : AV X_f2h R_f2h := .of tt_f2h
def con_f2h : BC Tryz.prog :=
 CH 98 J_f2h S_f2h D_f2h 1 0 [.any] (lk mxk lbn sd_f2h)
abbrev X_fi : Type := Int × Int × TSs
abbrev R_fi : Type := Int
abbrev RR_fi : Type := Int × TSs
abbrev p_fi (y : RR_fi) : TSs := y.2
abbrev w_fi (x : X_fi) : TSs := x.2.2
def J_fi : BH Tryz.prog :=
 BR Tryz.prog Tryz.f99 51 [] [(7, [.back (.loc 26 0)]), (10, [.back (.loc 26 0)]), (11, [.back (.loc 26 0)])] [(5, [.Gb (.par 0) [.BN 0 0] 26])] [.back (.loc 26 0)] [.any] [sh_TSs] [con_fm, con_f2h] RR_fi [(0, [⟨.loc 26 0, .par 0, [.BN 0 0], none, none⟩]), (5, [⟨.loc 26 0, .par 0, [.BN 0 0], none, none⟩])] fun y => [(V.int .i64) y.1, e_TSs y.2]
def S_fi : AR :=
 Aj Tryz.f99 3 1 X_fi (fun x => [(V.ptr (.par 0) []), (V.int .i64) x.1, (V.int .u64) x.2.1, e_TSs x.2.2]) fun l => (dI (at_ l 1), dI (at_ l 2), d_TSs (at_ l 3))
structure X_fi_5 where
 LV : Int
 t_2 : Int
 Ae : TSs
def S_fi_5 : AR :=
 Ak Tryz.f99 5 (an [0, 1, 2]) [sh_TSs] [] X_fi_5 (fun x => [(V.ptr (.par 0) []), (V.int .i64) x.LV, (V.int .u64) x.t_2, e_TSs x.Ae]) fun l => ⟨dI (at_ l 1), dI (at_ l 2), d_TSs (at_ l 3)⟩
abbrev w_fi_5 (x : X_fi_5) : TSs := (x.Ae)
def tt_fi_5 (x : X_fi_5) : TT Tryz.prog RR_fi :=
 (.call con_fm (x.t_2, ((TSs_L0.mk (Ln.mk x.Ae.l.nil x.Ae.l.n) x.Ae.AP), (Ar.mk x.Ae.l.n x.Ae.l.get))) fun (y1 : R_fm) =>
 (.need ((Nat.beq x.Ae.l.n y1.snd) && true) <|
 (.call con_f2h x.t_2 fun (y2 : R_f2h) =>
 (.ite (Bu (x.Ae.l.get y1.fst).AQ y2)
 (.need ((true && true) && (Nat.beq x.Ae.l.n x.Ae.l.n)) <|
 (.ret (9, x.Ae)))
 (.need ((Nat.beq x.Ae.l.n y1.snd) && true) <|
 (.call con_f2h x.t_2 fun (y3 : R_f2h) =>
 (.ite (Bu y3 (x.Ae.l.get y1.fst).AQ)
 (.need ((true && true) && (Nat.beq x.Ae.l.n x.Ae.l.n)) <|
 (.ret (11, x.Ae)))
 (.need ((Nat.beq x.Ae.l.n y1.snd) && true) <|
 (.need (Bh 0 x.LV) <|
 (.ite (Ad (Vm.bits .and IntKind.i64 (shr IntKind.i64 (x.Ae.l.get y1.fst).Left x.LV) 1) 0)
 (.need ((true && true) && (Nat.beq x.Ae.l.n x.Ae.l.n)) <|
 (.ret (11, x.Ae)))
 (.need ((true && true) && (Nat.beq x.Ae.l.n x.Ae.l.n)) <|
 (.ret (0, x.Ae)))))))))))))
theorem sd_fi_5 (x : X_fi_5) : (tt_fi_5 x).AH :=
 (TT.sC fun _ => (TT.sN (TT.sC fun _ => (TT.sI (TT.sN TT.sR) (TT.sN (TT.sC fun _ => (TT.sI (TT.sN TT.sR) (TT.sN (TT.sN (TT.sI (TT.sN TT.sR) (TT.sN TT.sR)))))))))))
theorem roT_fi_5 (x : X_fi_5) : TT.Ro p_fi (w_fi_5 x) (tt_fi_5 x) :=
 (TT.rC fun _ => (TT.rN (TT.rC fun _ => (TT.rI (TT.rN (TT.rR rfl)) (TT.rN (TT.rC fun _ => (TT.rI (TT.rN (TT.rR rfl)) (TT.rN (TT.rN (TT.rI (TT.rN (TT.rR rfl)) (TT.rN (TT.rR rfl))))))))))))
def D_fi_5 : AV X_fi_5 RR_fi := .of tt_fi_5
theorem ok_fi_5 : AZ J_fi S_fi_5 D_fi_5 :=
 lk mxk lbn sd_fi_5
theorem ro_fi_5 : ∀ x y, D_fi_5.rel x y → p_fi y = w_fi_5 x :=
 roT_fi_5 
def tt_fi (x : X_fi) : TT Tryz.prog RR_fi :=
 (.ite (Bh 4611686018427387904 x.snd.fst)
 (.ret (1, x.snd.snd))
 (.ite (Bu x.fst 0)
 (.ret (1, x.snd.snd))
 (.ite (Bh x.snd.snd.AP x.fst)
 (.ret (1, x.snd.snd))
 (.Ac S_fi_5 D_fi_5 (X_fi_5.mk x.fst x.snd.fst x.snd.snd)))))
theorem sd_fi (x : X_fi) : (tt_fi x).AH :=
 (TT.sI TT.sR (TT.sI TT.sR (TT.sI TT.sR TT.sJ)))
theorem roT_fi (x : X_fi) : TT.Ro p_fi (w_fi x) (tt_fi x) :=
 (TT.rI (TT.rR rfl) (TT.rI (TT.rR rfl) (TT.rI (TT.rR rfl) (TT.rJ (ro_fi_5 _)))))
def D_fi : AV X_fi R_fi := .ro (.of tt_fi) (fun y => (y.1)) (fun y x => (y, x.2.2)) fun x y h => congrArg (fun o => (y.1, o)) (roT_fi x y h)
def con_fi : BC Tryz.prog :=
 Cb 99 J_fi S_fi (.of tt_fi) D_fi (fun y x => (y, x.2.2)) (fun y => (V.int .i64) y) 3 1 [.any, .any, .any] (lk mxk (lbc ok_fi_5 rfl lbn) sd_fi) (fun x => ⟨(nu_e_TSs : ∀ y, (e_TSs y).CB) (x.2.2), trivial⟩)
end Go.Proofs.YtlhifcnjnmeknaaGreat
end
