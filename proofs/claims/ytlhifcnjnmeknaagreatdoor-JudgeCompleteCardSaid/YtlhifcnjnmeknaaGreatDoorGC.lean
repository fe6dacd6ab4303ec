/- What functions of the program come to, part C: no statement is proved here. -/
import Derived.Test.YtlhifcnjnmeknaaGreatDoorGB
noncomputable section
namespace Go.Proofs.YtlhifcnjnmeknaaGreatDoor
open Go Go.Vm Go.Proofs
set_option maxRecDepth 100000
set_option maxHeartbeats 4000000
abbrev X_f1t : Type:=TPg × Int
abbrev R_f1t : Type:=Bool
def J_f1t : A9 Tryz.prog :=
 BF Tryz.prog Tryz.f12 43 [(2,3)] [] [] [] [.any] [] [] R_f1t [] fun y=>[V.bool y]
def S_f1t : AM :=
 Ae Tryz.f12 2 0 X_f1t (fun x=>[e_TPg x.1,(V.int .i64) x.2]) fun l=>(d_TPg (at_ l 0),dI (at_ l 1))
structure X_f1t_3 where
 Gn : Int
 KS : TPg
def S_f1t_3 : AM :=
 Ad Tryz.f12 3 (an [1,2]) [] [] X_f1t_3 (fun x=>[(V.int .i64) x.Gn,(CR e_TPg) x.KS]) fun l=>⟨dI (at_ l 0),(CS d_TPg) (at_ l 1)⟩
structure X_f1t_5 where
 Gn : Int
 KS : TPg
 XH : Int
 Oa : Int
def S_f1t_5 : AM :=
 Ad Tryz.f12 5 (an [1,2,5,6]) [] [] X_f1t_5 (fun x=>[(V.int .i64) x.Gn,(CR e_TPg) x.KS,(V.int .i64) x.XH,(V.int .i64) x.Oa]) fun l=>⟨dI (at_ l 0),(CS d_TPg) (at_ l 1),dI (at_ l 2),dI (at_ l 3)⟩
def tt_f1t_5 (D_f1t_5 : AQ X_f1t_5 R_f1t) (x : X_f1t_5) : TT Tryz.prog R_f1t :=
 (.ite (BS x.Oa ((x.KS.AB.n : Nat) : Int))
 (.need (A0 x.Oa x.KS.AB.n) <|
 (.ite (BS x.Gn (((x.KS.AB.get (Int.toNat x.Oa)).n : Nat) : Int))
 (.ret false)
 (.need (A0 x.Oa x.KS.AB.n) <|
 (.jump S_f1t_5 D_f1t_5 (X_f1t_5.mk x.Gn x.KS (IntKind.i64.wrap (x.XH + (((x.KS.AB.get (Int.toNat x.Oa)).n : Nat) : Int))) (IntKind.i64.wrap (x.Oa + 1)))))))
 (.ret (Bd x.XH x.Gn)))
theorem sd_f1t_5 (D_f1t_5 : AQ X_f1t_5 R_f1t) (x : X_f1t_5) : (tt_f1t_5 D_f1t_5 x).AH :=
 (TT.sI (TT.sN (TT.sI TT.sR (TT.sN TT.sJ))) TT.sR)
def D_f1t_5 : AQ X_f1t_5 R_f1t:=AQ.loop tt_f1t_5
theorem ok_f1t_5 : AV J_f1t S_f1t_5 D_f1t_5 :=
 Az fun D_f1t_5 h_5=>lk mxk (lbc h_5 rfl lbn) (sd_f1t_5 D_f1t_5)
def tt_f1t_3 (x : X_f1t_3) : TT Tryz.prog R_f1t :=
 (.jump S_f1t_5 D_f1t_5 (X_f1t_5.mk x.Gn x.KS 0 0))
theorem sd_f1t_3 (x : X_f1t_3) : (tt_f1t_3 x).AH :=
 TT.sJ
def D_f1t_3 : AQ X_f1t_3 R_f1t:=.of tt_f1t_3
theorem ok_f1t_3 : AV J_f1t S_f1t_3 D_f1t_3 :=
 lk mxk (lbc ok_f1t_5 rfl lbn) sd_f1t_3
def tt_f1t (x : X_f1t) : TT Tryz.prog R_f1t :=
 (.ite (BS 10 ((x.fst.AJ.n : Nat) : Int))
 (.ret false)
 (.ite (BS 10 ((x.fst.AB.n : Nat) : Int))
 (.ret false)
 (.jump S_f1t_3 D_f1t_3 (X_f1t_3.mk x.snd x.fst))))
theorem sd_f1t (x : X_f1t) : (tt_f1t x).AH :=
 (TT.sI TT.sR (TT.sI TT.sR TT.sJ))
def D_f1t : AQ X_f1t R_f1t:=.of tt_f1t
def con_f1t : A3 Tryz.prog :=
 BZ 12 J_f1t S_f1t D_f1t 2 0 [sh_TPg,.any] (lk mxk (lbc ok_f1t_5 rfl (lbc ok_f1t_3 rfl lbn)) sd_f1t)
abbrev X_f48 : Type:=TRg
abbrev R_f48 : Type:=Bool
def J_f48 : A9 Tryz.prog :=
 BF Tryz.prog Tryz.f115 36 [(1,3)] [] [] [] [.any] [] [] R_f48 [] fun y=>[V.bool y]
def S_f48 : AM :=
 Ae Tryz.f115 1 0 X_f48 (fun x=>[e_TRg x]) fun l=>(d_TRg (at_ l 0))
def tt_f48 (x : X_f48) : TT Tryz.prog R_f48 :=
 (.ite (Bd 1 x.Cn)
 (.ite (Bd x.Cn 64)
 (.ite (AX x.Kind 1)
 (.ite (AX x.AU 1)
 (.ret true)
 (.ite (AX x.Kind 2)
 (.ite (Bd 1 x.AU)
 (.ret (Bd x.AU 8))
 (.ret false))
 (.ret false)))
 (.ite (AX x.Kind 2)
 (.ite (Bd 1 x.AU)
 (.ret (Bd x.AU 8))
 (.ret false))
 (.ret false)))
 (.ret false))
 (.ret false))
theorem sd_f48 (x : X_f48) : (tt_f48 x).AH :=
 (TT.sI (TT.sI (TT.sI (TT.sI TT.sR (TT.sI (TT.sI TT.sR TT.sR) TT.sR)) (TT.sI (TT.sI TT.sR TT.sR) TT.sR)) TT.sR) TT.sR)
def D_f48 : AQ X_f48 R_f48:=.of tt_f48
def con_f48 : A3 Tryz.prog :=
 BZ 115 J_f48 S_f48 D_f48 1 0 [.any] (lk mxk lbn sd_f48)
abbrev X_f49 : Type:=Int
abbrev R_f49 : Type:=ByteArray
def J_f49 : A9 Tryz.prog :=
 BF Tryz.prog Tryz.f153 53 [] [] [] [] [.any] [] [] R_f49 [] fun y=>[V.str y]
def S_f49 : AM :=
 Ae Tryz.f153 1 0 X_f49 (fun x=>[(V.int .i64) x]) fun l=>(dI (at_ l 0))
def tt_f49 (x : X_f49) : TT Tryz.prog R_f49 :=
 (.ite (AX x 1)
 (.ret (ByteArray.mk #[114,48,48,48,110]))
 (.ite (AX x 2)
 (.ret (ByteArray.mk #[114,114,48,48,48]))
 (.ite (AX x 23)
 (.ret (ByteArray.mk #[114,114,48,48,48]))
 (.ite (Bd 3 x)
 (.ite (Bd x 14)
 (.ret (ByteArray.mk #[114,114,114,48,48]))
 (.ite (AX x 15)
 (.ret (ByteArray.mk #[48,48,48,48,112]))
 (.ite (AX x 16)
 (.ret (ByteArray.mk #[114,48,48,48,112]))
 (.ite (AX x 17)
 (.ret (ByteArray.mk #[114,48,48,48,112]))
 (.ite (AX x 18)
 (.ret (ByteArray.mk #[114,114,103,109,48]))
 (.ite (AX x 19)
 (.ret (ByteArray.mk #[114,114,103,109,100]))
 (.ite (AX x 20)
 (.ret (ByteArray.mk #[48,48,103,48,48]))
 (.ite (AX x 21)
 (.ret (ByteArray.mk #[114,48,48,48,48]))
 (.ite (AX x 22)
 (.ret (ByteArray.mk #[114,48,48,48,48]))
 (.ite (AX x 24)
 (.ret (ByteArray.mk #[114,48,48,48,48]))
 (.ite (AX x 25)
 (.ret (ByteArray.mk #[48,48,48,48,48]))
 (.ret (ByteArray.mk #[])))))))))))))
 (.ite (AX x 15)
 (.ret (ByteArray.mk #[48,48,48,48,112]))
 (.ite (AX x 16)
 (.ret (ByteArray.mk #[114,48,48,48,112]))
 (.ite (AX x 17)
 (.ret (ByteArray.mk #[114,48,48,48,112]))
 (.ite (AX x 18)
 (.ret (ByteArray.mk #[114,114,103,109,48]))
 (.ite (AX x 19)
 (.ret (ByteArray.mk #[114,114,103,109,100]))
 (.ite (AX x 20)
 (.ret (ByteArray.mk #[48,48,103,48,48]))
 (.ite (AX x 21)
 (.ret (ByteArray.mk #[114,48,48,48,48]))
 (.ite (AX x 22)
 (.ret (ByteArray.mk #[114,48,48,48,48]))
 (.ite (AX x 24)
 (.ret (ByteArray.mk #[114,48,48,48,48]))
 (.ite (AX x 25)
 (.ret (ByteArray.mk #[48,48,48,48,48]))
 (.ret (ByteArray.mk #[]))))))))))))))))
theorem sd_f49 (x : X_f49) : (tt_f49 x).AH :=
 (TT.sI TT.sR (TT.sI TT.sR (TT.sI TT.sR (TT.sI (TT.sI TT.sR (TT.sI TT.sR (TT.sI TT.sR (TT.sI TT.sR (TT.sI TT.sR (TT.sI TT.sR (TT.sI TT.sR (TT.sI TT.sR (TT.sI TT.sR (TT.sI TT.sR (TT.sI TT.sR TT.sR))))))))))) (TT.sI TT.sR (TT.sI TT.sR (TT.sI TT.sR (TT.sI TT.sR (TT.sI TT.sR (TT.sI TT.sR (TT.sI TT.sR (TT.sI TT.sR (TT.sI TT.sR (TT.sI TT.sR TT.sR))))))))))))))
def D_f49 : AQ X_f49 R_f49:=.of tt_f49
def con_f49 : A3 Tryz.prog :=
 BZ 153 J_f49 S_f49 D_f49 1 0 [.any] (lk mxk lbn sd_f49)
abbrev X_f44 : Type:=Int
abbrev R_f44 : Type:=Int
def J_f44 : A9 Tryz.prog :=
 BF Tryz.prog Tryz.f154 14 [] [] [] [] [.any] [] [] R_f44 [] fun y=>[(V.int .u64) y]
def S_f44 : AM :=
 Ae Tryz.f154 1 0 X_f44 (fun x=>[(V.int .u8) x]) fun l=>(dI (at_ l 0))
def tt_f44 (x : X_f44) : TT Tryz.prog R_f44 :=
 (.ite (AX x 114)
 (.ret 7)
 (.ite (AX x 103)
 (.ret 7)
 (.ite (AX x 100)
 (.ret 7)
 (.ite (AX x 109)
 (.ret 2)
 (.ite (AX x 112)
 (.ret 256)
 (.ite (AX x 110)
 (.ret 18446744073709551615)
 (.ret 0)))))))
theorem sd_f44 (x : X_f44) : (tt_f44 x).AH :=
 (TT.sI TT.sR (TT.sI TT.sR (TT.sI TT.sR (TT.sI TT.sR (TT.sI TT.sR (TT.sI TT.sR TT.sR))))))
def D_f44 : AQ X_f44 R_f44:=.of tt_f44
def con_f44 : A3 Tryz.prog :=
 BZ 154 J_f44 S_f44 D_f44 1 0 [.any] (lk mxk lbn sd_f44)
abbrev X_fl : Type:=TIn
abbrev R_fl : Type:=Bool
def J_fl : A9 Tryz.prog :=
 BF Tryz.prog Tryz.f116 49 [(1,3)] [] [] [] [.any] [] [con_f49,con_f44] R_fl [] fun y=>[V.bool y]
def S_fl : AM :=
 Ae Tryz.f116 1 0 X_fl (fun x=>[e_TIn x]) fun l=>(d_TIn (at_ l 0))
structure X_fl_4 where
 Ff : TIn
 Mq : ByteArray
def S_fl_4 : AM :=
 Ad Tryz.f116 4 (an [1,3]) [] [] X_fl_4 (fun x=>[(CR e_TIn) x.Ff,V.str x.Mq]) fun l=>⟨(CS d_TIn) (at_ l 0),dS (at_ l 1)⟩
structure X_fl_6 where
 Mq : ByteArray
 Te : (Sl Int)
 RJ : Int
def S_fl_6 : AM :=
 Ad Tryz.f116 6 [(3,.any),(4,Dc),(5,.any)] [] [] X_fl_6 (fun x=>[V.str x.Mq,DD x.Te,(V.int .i64) x.RJ]) fun l=>⟨dS (at_ l 0),EV (at_ l 1),dI (at_ l 2)⟩
structure X_fl_7 where
 Mq : ByteArray
 Te : (Sl Int)
 RJ : Int
def S_fl_7 : AM :=
 Ad Tryz.f116 7 [(3,.any),(4,Dc),(5,.any)] [] [] X_fl_7 (fun x=>[V.str x.Mq,DD x.Te,(V.int .i64) x.RJ]) fun l=>⟨dS (at_ l 0),EV (at_ l 1),dI (at_ l 2)⟩
def tt_fl_7 (D_fl_6 : AQ X_fl_6 R_fl) (x : X_fl_7) : TT Tryz.prog R_fl :=
 (.jump S_fl_6 D_fl_6 (X_fl_6.mk x.Mq x.Te (IntKind.i64.wrap (x.RJ + 1))))
theorem sd_fl_7 (D_fl_6 : AQ X_fl_6 R_fl) (x : X_fl_7) : (tt_fl_7 D_fl_6 x).AH :=
 TT.sJ
def D_fl_7 (D_fl_6 : AQ X_fl_6 R_fl) : AQ X_fl_7 R_fl:=.of (tt_fl_7 D_fl_6)
theorem ok_fl_7 (D_fl_6 : AQ X_fl_6 R_fl) (h_6 : AV J_fl S_fl_6 D_fl_6) : AV J_fl S_fl_7 (D_fl_7 D_fl_6) :=
 lk mxk (lbc h_6 rfl lbn) (sd_fl_7 D_fl_6)
def tt_fl_6 (D_fl_6 : AQ X_fl_6 R_fl) (x : X_fl_6) : TT Tryz.prog R_fl :=
 (.ite (BS x.RJ 4)
 (.need (A0 x.RJ x.Te.n) <|
 (.ite (BS (x.Te.get (Int.toNat x.RJ)) 0)
 (.ret false)
 (.need (A0 x.RJ x.Te.n) <|
 (.need (A0 x.RJ (ByteArray.size x.Mq)) <|
 (.call con_f44 (bt x.Mq (Int.toNat x.RJ)) fun (y2 : R_f44) =>
 (.ite (BS y2 (IntKind.u64.wrap (x.Te.get (Int.toNat x.RJ))))
 (.ret false)
 (.jump S_fl_7 (D_fl_7 D_fl_6) (X_fl_7.mk x.Mq x.Te x.RJ))))))))
 (.ret true))
theorem sd_fl_6 (D_fl_6 : AQ X_fl_6 R_fl) (x : X_fl_6) : (tt_fl_6 D_fl_6 x).AH :=
 (TT.sI (TT.sN (TT.sI TT.sR (TT.sN (TT.sN (TT.sC fun _=>(TT.sI TT.sR TT.sJ)))))) TT.sR)
def D_fl_6 : AQ X_fl_6 R_fl:=AQ.loop tt_fl_6
theorem ok_fl_6 : AV J_fl S_fl_6 D_fl_6 :=
 Az fun D_fl_6 h_6=>lk mxk (lbc h_6 rfl (lbc (ok_fl_7 D_fl_6 h_6) rfl lbn)) (sd_fl_6 D_fl_6)
def tt_fl_4 (x : X_fl_4) : TT Tryz.prog R_fl :=
 (.jump S_fl_6 D_fl_6 (X_fl_6.mk x.Mq (Sl.mk false 4 (fun i1=>(cond (Nat.beq i1 0) x.Ff.A (cond (Nat.beq i1 1) x.Ff.B (cond (Nat.beq i1 2) x.Ff.C x.Ff.D))))) 0))
theorem sd_fl_4 (x : X_fl_4) : (tt_fl_4 x).AH :=
 TT.sJ
def D_fl_4 : AQ X_fl_4 R_fl:=.of tt_fl_4
theorem ok_fl_4 : AV J_fl S_fl_4 D_fl_4 :=
 lk mxk (lbc ok_fl_6 rfl lbn) sd_fl_4
def tt_fl (x : X_fl) : TT Tryz.prog R_fl :=
 (.call con_f49 x.Op fun (y1 : R_f49) =>
 (.ite (seq y1 (ByteArray.mk #[]))
 (.ret false)
 (.need (A0 4 (ByteArray.size y1)) <|
 (.call con_f44 (bt y1 (Int.toNat 4)) fun (y2 : R_f44) =>
 (.ite (BS y2 x.K)
 (.ret false)
 (.jump S_fl_4 D_fl_4 (X_fl_4.mk x y1)))))))
theorem sd_fl (x : X_fl) : (tt_fl x).AH :=
 (TT.sC fun _=>(TT.sI TT.sR (TT.sN (TT.sC fun _=>(TT.sI TT.sR TT.sJ)))))
def D_fl : AQ X_fl R_fl:=.of tt_fl
def con_fl : A3 Tryz.prog :=
 BZ 116 J_fl S_fl D_fl 1 0 [.any] (lk mxk (lbc ok_fl_6 rfl (lbc ok_fl_4 rfl lbn)) sd_fl)
abbrev X_f28 : Type:=TPg × TIn × Int
abbrev R_f28 : Type:=Int
def J_f28 : A9 Tryz.prog :=
 BF Tryz.prog Tryz.f117 56 [(3,3),(4,3)] [] [] [] [.any] [] [] R_f28 [] fun y=>[(V.int .i64) y]
def S_f28 : AM :=
 Ae Tryz.f117 3 0 X_f28 (fun x=>[e_TPg x.1,e_TIn x.2.1,(V.int .i64) x.2.2]) fun l=>(d_TPg (at_ l 0),d_TIn (at_ l 1),dI (at_ l 2))
structure X_f28_3 where
 Da : TPg
 Ek : TIn
def S_f28_3 : AM :=
 Ad Tryz.f117 3 (an [3,4]) [] [] X_f28_3 (fun x=>[(CR e_TPg) x.Da,(CR e_TIn) x.Ek]) fun l=>⟨(CS d_TPg) (at_ l 0),(CS d_TIn) (at_ l 1)⟩
def tt_f28_3 (x : X_f28_3) : TT Tryz.prog R_f28 :=
 (.ite (Bd 18 x.Ek.Op)
 (.ite (Bd x.Ek.Op 20)
 (.ite (Bd ((x.Da.AJ.n : Nat) : Int) x.Ek.C)
 (.ret 7)
 (.ite (AX x.Ek.Op 19)
 (.need (A0 x.Ek.C x.Da.AJ.n) <|
 (.ite (Bd (IntKind.u64.wrap (x.Da.AJ.get (Int.toNat x.Ek.C)).AU) x.Ek.K)
 (.ret 7)
 (.ret 0)))
 (.ret 0)))
 (.ite (AX x.Ek.Op 19)
 (.need (A0 x.Ek.C x.Da.AJ.n) <|
 (.ite (Bd (IntKind.u64.wrap (x.Da.AJ.get (Int.toNat x.Ek.C)).AU) x.Ek.K)
 (.ret 7)
 (.ret 0)))
 (.ret 0)))
 (.ite (AX x.Ek.Op 19)
 (.need (A0 x.Ek.C x.Da.AJ.n) <|
 (.ite (Bd (IntKind.u64.wrap (x.Da.AJ.get (Int.toNat x.Ek.C)).AU) x.Ek.K)
 (.ret 7)
 (.ret 0)))
 (.ret 0)))
theorem sd_f28_3 (x : X_f28_3) : (tt_f28_3 x).AH :=
 (TT.sI (TT.sI (TT.sI TT.sR (TT.sI (TT.sN (TT.sI TT.sR TT.sR)) TT.sR)) (TT.sI (TT.sN (TT.sI TT.sR TT.sR)) TT.sR)) (TT.sI (TT.sN (TT.sI TT.sR TT.sR)) TT.sR))
def D_f28_3 : AQ X_f28_3 R_f28:=.of tt_f28_3
theorem ok_f28_3 : AV J_f28 S_f28_3 D_f28_3 :=
 lk mxk lbn sd_f28_3
def tt_f28 (x : X_f28) : TT Tryz.prog R_f28 :=
 (.ite (Bd 15 x.snd.fst.Op)
 (.ite (Bd x.snd.fst.Op 17)
 (.ite (BS (IntKind.u64.wrap x.snd.snd) x.snd.fst.K)
 (.ret 5)
 (.jump S_f28_3 D_f28_3 (X_f28_3.mk x.fst x.snd.fst)))
 (.jump S_f28_3 D_f28_3 (X_f28_3.mk x.fst x.snd.fst)))
 (.jump S_f28_3 D_f28_3 (X_f28_3.mk x.fst x.snd.fst)))
theorem sd_f28 (x : X_f28) : (tt_f28 x).AH :=
 (TT.sI (TT.sI (TT.sI TT.sR TT.sJ) TT.sJ) TT.sJ)
def D_f28 : AQ X_f28 R_f28:=.of tt_f28
def con_f28 : A3 Tryz.prog :=
 BZ 117 J_f28 S_f28 D_f28 3 0 [sh_TPg,.any,.any] (lk mxk (lbc ok_f28_3 rfl lbn) sd_f28)
abbrev X_f3 : Type:=TPg
abbrev R_f3 : Type:=Int × Int × Int
def J_f3 : A9 Tryz.prog :=
 BF Tryz.prog Tryz.f71 81 [(1,3)] [] [] [] [.any,.any,.any] [] [con_fl,con_f28,con_f48] R_f3 [] fun y=>[V.CC (V.cons ((V.int .i64) y.1) (V.cons ((V.int .i64) y.2.1) (V.cons ((V.int .i64) y.2.2) (V.unit))))]
def S_f3 : AM :=
 Ae Tryz.f71 1 0 X_f3 (fun x=>[e_TPg x]) fun l=>(d_TPg (at_ l 0))
structure X_f3_3 where
 DQ : TPg
def S_f3_3 : AM :=
 Ad Tryz.f71 3 [(1,.any)] [] [] X_f3_3 (fun x=>[(CR e_TPg) x.DQ]) fun l=>⟨(CS d_TPg) (at_ l 0)⟩
structure X_f3_4 where
 DQ : TPg
 Ob : Int
def S_f3_4 : AM :=
 Ad Tryz.f71 4 (an [1,5]) [] [] X_f3_4 (fun x=>[(CR e_TPg) x.DQ,(V.int .i64) x.Ob]) fun l=>⟨(CS d_TPg) (at_ l 0),dI (at_ l 1)⟩
structure X_f3_8 where
 DQ : TPg
def S_f3_8 : AM :=
 Ad Tryz.f71 8 [(1,.any)] [] [] X_f3_8 (fun x=>[(CR e_TPg) x.DQ]) fun l=>⟨(CS d_TPg) (at_ l 0)⟩
structure X_f3_9 where
 DQ : TPg
 K8 : Int
def S_f3_9 : AM :=
 Ad Tryz.f71 9 (an [1,6]) [] [] X_f3_9 (fun x=>[(CR e_TPg) x.DQ,(V.int .i64) x.K8]) fun l=>⟨(CS d_TPg) (at_ l 0),dI (at_ l 1)⟩
structure X_f3_10 where
 DQ : TPg
 K8 : Int
def S_f3_10 : AM :=
 Ad Tryz.f71 10 (an [1,6]) [] [] X_f3_10 (fun x=>[(CR e_TPg) x.DQ,(V.int .i64) x.K8]) fun l=>⟨(CS d_TPg) (at_ l 0),dI (at_ l 1)⟩
structure X_f3_15 where
 DQ : TPg
 K8 : Int
 PA : (Sl TIn)
 PB : Int
def S_f3_15 : AM :=
 Ad Tryz.f71 15 [(1,.any),(6,.any),(7,hsl_TIn),(8,.any)] [] [] X_f3_15 (fun x=>[(CR e_TPg) x.DQ,(V.int .i64) x.K8,esl_TIn x.PA,(V.int .i64) x.PB]) fun l=>⟨(CS d_TPg) (at_ l 0),dI (at_ l 1),dsl_TIn (at_ l 2),dI (at_ l 3)⟩
structure X_f3_16 where
 DQ : TPg
 K8 : Int
 PA : (Sl TIn)
 PB : Int
def S_f3_16 : AM :=
 Ad Tryz.f71 16 [(1,.any),(6,.any),(7,hsl_TIn),(8,.any)] [] [] X_f3_16 (fun x=>[(CR e_TPg) x.DQ,(V.int .i64) x.K8,esl_TIn x.PA,(V.int .i64) x.PB]) fun l=>⟨(CS d_TPg) (at_ l 0),dI (at_ l 1),dsl_TIn (at_ l 2),dI (at_ l 3)⟩
structure X_f3_20 where
 DQ : TPg
 K8 : Int
 PA : (Sl TIn)
 PB : Int
 e_9 : Int
def S_f3_20 : AM :=
 Ad Tryz.f71 20 [(1,.any),(6,.any),(7,hsl_TIn),(8,.any),(9,.any)] [] [] X_f3_20 (fun x=>[(CR e_TPg) x.DQ,(V.int .i64) x.K8,esl_TIn x.PA,(V.int .i64) x.PB,(V.int .i64) x.e_9]) fun l=>⟨(CS d_TPg) (at_ l 0),dI (at_ l 1),dsl_TIn (at_ l 2),dI (at_ l 3),dI (at_ l 4)⟩
def tt_f3_10 (D_f3_9 : AQ X_f3_9 R_f3) (x : X_f3_10) : TT Tryz.prog R_f3 :=
 (.jump S_f3_9 D_f3_9 (X_f3_9.mk x.DQ (IntKind.i64.wrap (x.K8 + 1))))
theorem sd_f3_10 (D_f3_9 : AQ X_f3_9 R_f3) (x : X_f3_10) : (tt_f3_10 D_f3_9 x).AH :=
 TT.sJ
def D_f3_10 (D_f3_9 : AQ X_f3_9 R_f3) : AQ X_f3_10 R_f3:=.of (tt_f3_10 D_f3_9)
theorem ok_f3_10 (D_f3_9 : AQ X_f3_9 R_f3) (h_9 : AV J_f3 S_f3_9 D_f3_9) : AV J_f3 S_f3_10 (D_f3_10 D_f3_9) :=
 lk mxk (lbc h_9 rfl lbn) (sd_f3_10 D_f3_9)
def tt_f3_16 (D_f3_9 : AQ X_f3_9 R_f3) (D_f3_15 : AQ X_f3_15 R_f3) (x : X_f3_16) : TT Tryz.prog R_f3 :=
 (.jump S_f3_15 D_f3_15 (X_f3_15.mk x.DQ x.K8 x.PA (IntKind.i64.wrap (x.PB + 1))))
theorem sd_f3_16 (D_f3_9 : AQ X_f3_9 R_f3) (D_f3_15 : AQ X_f3_15 R_f3) (x : X_f3_16) : (tt_f3_16 D_f3_9 D_f3_15 x).AH :=
 TT.sJ
def D_f3_16 (D_f3_9 : AQ X_f3_9 R_f3) (D_f3_15 : AQ X_f3_15 R_f3) : AQ X_f3_16 R_f3:=.of (tt_f3_16 D_f3_9 D_f3_15)
theorem ok_f3_16 (D_f3_9 : AQ X_f3_9 R_f3) (D_f3_15 : AQ X_f3_15 R_f3) (h_9 : AV J_f3 S_f3_9 D_f3_9) (h_15 : AV J_f3 S_f3_15 D_f3_15) : AV J_f3 S_f3_16 (D_f3_16 D_f3_9 D_f3_15) :=
 lk mxk (lbc h_9 rfl (lbc h_15 rfl (lbc (ok_f3_10 D_f3_9 h_9) rfl lbn))) (sd_f3_16 D_f3_9 D_f3_15)
def tt_f3_20 (D_f3_9 : AQ X_f3_9 R_f3) (D_f3_15 : AQ X_f3_15 R_f3) (x : X_f3_20) : TT Tryz.prog R_f3 :=
 (.ite (!(AX x.e_9 0))
 (.ret (x.K8,(x.PB,x.e_9)))
 (.jump S_f3_16 (D_f3_16 D_f3_9 D_f3_15) (X_f3_16.mk x.DQ x.K8 x.PA x.PB)))
theorem sd_f3_20 (D_f3_9 : AQ X_f3_9 R_f3) (D_f3_15 : AQ X_f3_15 R_f3) (x : X_f3_20) : (tt_f3_20 D_f3_9 D_f3_15 x).AH :=
 (TT.sI TT.sR TT.sJ)
def D_f3_20 (D_f3_9 : AQ X_f3_9 R_f3) (D_f3_15 : AQ X_f3_15 R_f3) : AQ X_f3_20 R_f3:=.of (tt_f3_20 D_f3_9 D_f3_15)
theorem ok_f3_20 (D_f3_9 : AQ X_f3_9 R_f3) (D_f3_15 : AQ X_f3_15 R_f3) (h_9 : AV J_f3 S_f3_9 D_f3_9) (h_15 : AV J_f3 S_f3_15 D_f3_15) : AV J_f3 S_f3_20 (D_f3_20 D_f3_9 D_f3_15) :=
 lk mxk (lbc h_9 rfl (lbc h_15 rfl (lbc (ok_f3_10 D_f3_9 h_9) rfl (lbc (ok_f3_16 D_f3_9 D_f3_15 h_9 h_15) rfl lbn)))) (sd_f3_20 D_f3_9 D_f3_15)
def tt_f3_15 (D_f3_9 : AQ X_f3_9 R_f3) (D_f3_15 : AQ X_f3_15 R_f3) (x : X_f3_15) : TT Tryz.prog R_f3 :=
 (.ite (BS x.PB ((x.PA.n : Nat) : Int))
 (.need (A0 x.PB x.PA.n) <|
 (.call con_fl (x.PA.get (Int.toNat x.PB)) fun (y3 : R_fl) =>
 (.ite y3
 (.need (A0 x.PB x.PA.n) <|
 (.call con_f28 (x.DQ,((x.PA.get (Int.toNat x.PB)),((x.PA.n : Nat) : Int))) fun (y4 : R_f28) =>
 (.jump S_f3_20 (D_f3_20 D_f3_9 D_f3_15) (X_f3_20.mk x.DQ x.K8 x.PA x.PB y4))))
 (.jump S_f3_20 (D_f3_20 D_f3_9 D_f3_15) (X_f3_20.mk x.DQ x.K8 x.PA x.PB 6)))))
 (.jump S_f3_10 (D_f3_10 D_f3_9) (X_f3_10.mk x.DQ x.K8)))
theorem sd_f3_15 (D_f3_9 : AQ X_f3_9 R_f3) (D_f3_15 : AQ X_f3_15 R_f3) (x : X_f3_15) : (tt_f3_15 D_f3_9 D_f3_15 x).AH :=
 (TT.sI (TT.sN (TT.sC fun _=>(TT.sI (TT.sN (TT.sC fun _=>TT.sJ)) TT.sJ))) TT.sJ)
def D_f3_15 (D_f3_9 : AQ X_f3_9 R_f3) : AQ X_f3_15 R_f3:=AQ.loop (tt_f3_15 D_f3_9)
theorem ok_f3_15 (D_f3_9 : AQ X_f3_9 R_f3) (h_9 : AV J_f3 S_f3_9 D_f3_9) : AV J_f3 S_f3_15 (D_f3_15 D_f3_9) :=
 Az fun D_f3_15 h_15=>lk mxk (lbc h_9 rfl (lbc h_15 rfl (lbc (ok_f3_10 D_f3_9 h_9) rfl (lbc (ok_f3_16 D_f3_9 D_f3_15 h_9 h_15) rfl (lbc (ok_f3_20 D_f3_9 D_f3_15 h_9 h_15) rfl lbn))))) (sd_f3_15 D_f3_9 D_f3_15)
def tt_f3_9 (D_f3_9 : AQ X_f3_9 R_f3) (x : X_f3_9) : TT Tryz.prog R_f3 :=
 (.ite (BS x.K8 ((x.DQ.AB.n : Nat) : Int))
 (.need (A0 x.K8 x.DQ.AB.n) <|
 (.ite (BS 256 (((x.DQ.AB.get (Int.toNat x.K8)).n : Nat) : Int))
 (.ret (x.K8,(256,4)))
 (.jump S_f3_15 (D_f3_15 D_f3_9) (X_f3_15.mk x.DQ x.K8 (x.DQ.AB.get (Int.toNat x.K8)) 0))))
 (.ret (0,(0,0))))
theorem sd_f3_9 (D_f3_9 : AQ X_f3_9 R_f3) (x : X_f3_9) : (tt_f3_9 D_f3_9 x).AH :=
 (TT.sI (TT.sN (TT.sI TT.sR TT.sJ)) TT.sR)
def D_f3_9 : AQ X_f3_9 R_f3:=AQ.loop tt_f3_9
theorem ok_f3_9 : AV J_f3 S_f3_9 D_f3_9 :=
 Az fun D_f3_9 h_9=>lk mxk (lbc h_9 rfl (lbc (ok_f3_10 D_f3_9 h_9) rfl (lbc (ok_f3_15 D_f3_9 h_9) rfl lbn))) (sd_f3_9 D_f3_9)
def tt_f3_8 (x : X_f3_8) : TT Tryz.prog R_f3 :=
 (.jump S_f3_9 D_f3_9 (X_f3_9.mk x.DQ 0))
theorem sd_f3_8 (x : X_f3_8) : (tt_f3_8 x).AH :=
 TT.sJ
def D_f3_8 : AQ X_f3_8 R_f3:=.of tt_f3_8
theorem ok_f3_8 : AV J_f3 S_f3_8 D_f3_8 :=
 lk mxk (lbc ok_f3_9 rfl lbn) sd_f3_8
def tt_f3_4 (D_f3_4 : AQ X_f3_4 R_f3) (x : X_f3_4) : TT Tryz.prog R_f3 :=
 (.ite (BS x.Ob ((x.DQ.AJ.n : Nat) : Int))
 (.need (A0 x.Ob x.DQ.AJ.n) <|
 (.call con_f48 (x.DQ.AJ.get (Int.toNat x.Ob)) fun (y2 : R_f48) =>
 (.ite (!y2)
 (.ret ((-(1 : Int)),(x.Ob,7)))
 (.jump S_f3_4 D_f3_4 (X_f3_4.mk x.DQ (IntKind.i64.wrap (x.Ob + 1)))))))
 (.jump S_f3_8 D_f3_8 (X_f3_8.mk x.DQ)))
theorem sd_f3_4 (D_f3_4 : AQ X_f3_4 R_f3) (x : X_f3_4) : (tt_f3_4 D_f3_4 x).AH :=
 (TT.sI (TT.sN (TT.sC fun _=>(TT.sI TT.sR TT.sJ))) TT.sJ)
def D_f3_4 : AQ X_f3_4 R_f3:=AQ.loop tt_f3_4
theorem ok_f3_4 : AV J_f3 S_f3_4 D_f3_4 :=
 Az fun D_f3_4 h_4=>lk mxk (lbc h_4 rfl (lbc ok_f3_9 rfl (lbc ok_f3_8 rfl lbn))) (sd_f3_4 D_f3_4)
def tt_f3_3 (x : X_f3_3) : TT Tryz.prog R_f3 :=
 (.jump S_f3_4 D_f3_4 (X_f3_4.mk x.DQ 0))
theorem sd_f3_3 (x : X_f3_3) : (tt_f3_3 x).AH :=
 TT.sJ
def D_f3_3 : AQ X_f3_3 R_f3:=.of tt_f3_3
theorem ok_f3_3 : AV J_f3 S_f3_3 D_f3_3 :=
 lk mxk (lbc ok_f3_9 rfl (lbc ok_f3_8 rfl (lbc ok_f3_4 rfl lbn))) sd_f3_3
def tt_f3 (x : X_f3) : TT Tryz.prog R_f3 :=
 (.ite (AX ((x.AB.n : Nat) : Int) 0)
 (.ret (0,(0,1)))
 (.ite (BS 8 ((x.AB.n : Nat) : Int))
 (.ret (0,(0,1)))
 (.ite (BS 8 ((x.AJ.n : Nat) : Int))
 (.ret (0,(0,1)))
 (.jump S_f3_3 D_f3_3 (X_f3_3.mk x)))))
theorem sd_f3 (x : X_f3) : (tt_f3 x).AH :=
 (TT.sI TT.sR (TT.sI TT.sR (TT.sI TT.sR TT.sJ)))
def D_f3 : AQ X_f3 R_f3:=.of tt_f3
def con_f3 : A3 Tryz.prog :=
 BZ 71 J_f3 S_f3 D_f3 1 0 [sh_TPg] (lk mxk (lbc ok_f3_9 rfl (lbc ok_f3_8 rfl (lbc ok_f3_4 rfl (lbc ok_f3_3 rfl lbn)))) sd_f3)
abbrev X_f41 : Type:=TPg
abbrev R_f41 : Type:=Bool
def J_f41 : A9 Tryz.prog :=
 BF Tryz.prog Tryz.f38 14 [(1,3),(6,1)] [] [] [] [.any] [] [con_f3] R_f41 [] fun y=>[V.bool y]
def S_f41 : AM :=
 Ae Tryz.f38 1 0 X_f41 (fun x=>[e_TPg x]) fun l=>(d_TPg (at_ l 0))
def tt_f41 (x : X_f41) : TT Tryz.prog R_f41 :=
 (.call con_f3 x fun (y1 : R_f3) =>
 (.ret (AX y1.snd.snd 0)))
theorem sd_f41 (x : X_f41) : (tt_f41 x).AH :=
 (TT.sC fun _=>TT.sR)
def D_f41 : AQ X_f41 R_f41:=.of tt_f41
def con_f41 : A3 Tryz.prog :=
 BZ 38 J_f41 S_f41 D_f41 1 0 [sh_TPg] (lk mxk lbn sd_f41)
abbrev X_f42 : Type:=TPg
abbrev R_f42 : Type:=Bool
def J_f42 : A9 Tryz.prog :=
 BF Tryz.prog Tryz.f15 5 [(1,3)] [] [] [] [.any] [] [con_f41] R_f42 [] fun y=>[V.bool y]
def S_f42 : AM :=
 Ae Tryz.f15 1 0 X_f42 (fun x=>[e_TPg x]) fun l=>(d_TPg (at_ l 0))
def tt_f42 (x : X_f42) : TT Tryz.prog R_f42 :=
 (.call con_f41 x fun (y1 : R_f41) =>
 (.ret y1))
theorem sd_f42 (x : X_f42) : (tt_f42 x).AH :=
 (TT.sC fun _=>TT.sR)
def D_f42 : AQ X_f42 R_f42:=.of tt_f42
def con_f42 : A3 Tryz.prog :=
 BZ 15 J_f42 S_f42 D_f42 1 0 [sh_TPg] (lk mxk lbn sd_f42)
abbrev X_f4g : Type:=TPg
abbrev R_f4g : Type:=Bool
def J_f4g : A9 Tryz.prog :=
 BF Tryz.prog Tryz.f25 9 [(1,3)] [] [] [] [.any] [] [con_f1t,con_f42] R_f4g [] fun y=>[V.bool y]
def S_f4g : AM :=
 Ae Tryz.f25 1 0 X_f4g (fun x=>[e_TPg x]) fun l=>(d_TPg (at_ l 0))
def tt_f4g (x : X_f4g) : TT Tryz.prog R_f4g :=
 (.call con_f1t (x,100) fun (y1 : R_f1t) =>
 (.ite y1
 (.call con_f42 x fun (y2 : R_f42) =>
 (.ret y2))
 (.ret false)))
theorem sd_f4g (x : X_f4g) : (tt_f4g x).AH :=
 (TT.sC fun _=>(TT.sI (TT.sC fun _=>TT.sR) TT.sR))
def D_f4g : AQ X_f4g R_f4g:=.of tt_f4g
def con_f4g : A3 Tryz.prog :=
 BZ 25 J_f4g S_f4g D_f4g 1 0 [sh_TPg] (lk mxk lbn sd_f4g)
structure D3 where
 VF : Int
 Va : Int
 Vi : Int
 Vu : Bool
def VS (v : V) : D3 :=
 ⟨dI (fd v 0),dI (fd v 1),dI (fd v 2),dB (fd v 3)⟩
def VN (x : D3) : V :=
 V.cons ((V.int .i64) x.VF) (V.cons ((V.int .u64) x.Va) (V.cons ((V.int .u64) x.Vi) (V.cons (V.bool x.Vu) (V.unit))))
theorem WQ (x : D3) : (VN x).CV:=⟨trivial,trivial,trivial,trivial,trivial⟩
abbrev Vd : Type:=(Sl D3)
def SC : Vd → V:=(LA none 4 VN)
def VK : V → Vd:=(LX VS)
def VJ : Sh:=(.sl none 4 (VN (VS .undef)))
abbrev W6 : Type:=(Sl D3)
def W2 : W6 → V:=(LA (some 67) 4 VN)
def W3 : V → W6:=(LX VS)
def W1 : Sh:=(.sl (some 67) 4 (VN (VS .undef)))
abbrev X_f4x : Type:=TPg × (Sl TEv)
abbrev R_f4x : Type:=(Sl Int) × (Sl D3) × Int
def J_f4x : A9 Tryz.prog :=
 BF Tryz.prog Tryz.f33 68 [(2,3),(18,1),(23,1),(52,1),(61,1),(66,1),(67,1)] [(6,[.open_ 7])] [] [.shut 4,.shut 5] [Ep,VJ,.any] [] [con_f3n,con_f2k,con_f1f,con_f1h] R_f4x [] fun y=>[V.CC (V.cons (EU y.1) (V.cons (SC y.2.1) (V.cons ((V.int .i64) y.2.2) (V.unit))))]
def S_f4x : AM :=
 Ae Tryz.f33 2 0 X_f4x (fun x=>[e_TPg x.1,esl_TEv x.2]) fun l=>(d_TPg (at_ l 0),dsl_TEv (at_ l 1))
structure X_f4x_7 where
 VZ : (Sl Int)
 VX : (Sl D3)
 Im : (Sl TEv)
 TI : Int
 F8 : Int
 DR : TFa
def S_f4x_7 : AM :=
 Ad Tryz.f33 7 [(4,Ny),(5,W1),(7,.any),(23,hsl_TEv),(24,.any),(25,.any)] [] [(.loc 7 1,sh_TFa)] X_f4x_7 (fun x=>[OA x.VZ,W2 x.VX,(V.ptr (.loc 7 1) []),esl_TEv x.Im,(V.int .i64) x.TI,(V.int .i64) x.F8,e_TFa x.DR]) fun l=>⟨U5 (at_ l 0),W3 (at_ l 1),dsl_TEv (at_ l 3),dI (at_ l 4),dI (at_ l 5),d_TFa (at_ l 6)⟩
structure X_f4x_17 where
 VZ : (Sl Int)
 VX : (Sl D3)
 Im : (Sl TEv)
 TI : Int
 F8 : Int
 I1 : TEv
 XX : D3
 DR : TFa
def S_f4x_17 : AM :=
 Ad Tryz.f33 17 [(4,Ny),(5,W1),(7,.any),(10,.any),(11,.any),(23,hsl_TEv),(24,.any),(25,.any)] [] [(.loc 10 0,.any),(.loc 11 0,.any),(.loc 7 1,sh_TFa)] X_f4x_17 (fun x=>[OA x.VZ,W2 x.VX,(V.ptr (.loc 7 1) []),(V.ptr (.loc 10 0) []),(V.ptr (.loc 11 0) []),esl_TEv x.Im,(V.int .i64) x.TI,(V.int .i64) x.F8,e_TEv x.I1,VN x.XX,e_TFa x.DR]) fun l=>⟨U5 (at_ l 0),W3 (at_ l 1),dsl_TEv (at_ l 5),dI (at_ l 6),dI (at_ l 7),d_TEv (at_ l 8),VS (at_ l 9),d_TFa (at_ l 10)⟩
structure X_f4x_20 where
 VZ : (Sl Int)
 VX : (Sl D3)
 Im : (Sl TEv)
 TI : Int
 F8 : Int
 DR : TFa
def S_f4x_20 : AM :=
 Ad Tryz.f33 20 [(4,Ny),(5,W1),(7,.any),(23,hsl_TEv),(24,.any),(25,.any)] [] [(.loc 7 1,sh_TFa)] X_f4x_20 (fun x=>[OA x.VZ,W2 x.VX,(V.ptr (.loc 7 1) []),esl_TEv x.Im,(V.int .i64) x.TI,(V.int .i64) x.F8,e_TFa x.DR]) fun l=>⟨U5 (at_ l 0),W3 (at_ l 1),dsl_TEv (at_ l 3),dI (at_ l 4),dI (at_ l 5),d_TFa (at_ l 6)⟩
structure X_f4x_21 where
 VZ : (Sl Int)
 VX : (Sl D3)
def S_f4x_21 : AM :=
 Ad Tryz.f33 21 [(4,Ny),(5,W1)] [] [] X_f4x_21 (fun x=>[OA x.VZ,W2 x.VX]) fun l=>⟨U5 (at_ l 0),W3 (at_ l 1)⟩
def tt_f4x_21 (x : X_f4x_21) : TT Tryz.prog R_f4x :=
 (.ret (x.VZ,(x.VX,0)))
theorem sd_f4x_21 (x : X_f4x_21) : (tt_f4x_21 x).AH :=
 TT.sR
def D_f4x_21 : AQ X_f4x_21 R_f4x:=.of tt_f4x_21
theorem ok_f4x_21 : AV J_f4x S_f4x_21 D_f4x_21 :=
 lk mxk lbn sd_f4x_21
def tt_f4x_20 (D_f4x_7 : AQ X_f4x_7 R_f4x) (x : X_f4x_20) : TT Tryz.prog R_f4x :=
 (.jump S_f4x_7 D_f4x_7 (X_f4x_7.mk x.VZ x.VX x.Im x.TI (IntKind.i64.wrap (x.F8 + 1)) x.DR))
theorem sd_f4x_20 (D_f4x_7 : AQ X_f4x_7 R_f4x) (x : X_f4x_20) : (tt_f4x_20 D_f4x_7 x).AH :=
 TT.sJ
def D_f4x_20 (D_f4x_7 : AQ X_f4x_7 R_f4x) : AQ X_f4x_20 R_f4x:=.of (tt_f4x_20 D_f4x_7)
theorem ok_f4x_20 (D_f4x_7 : AQ X_f4x_7 R_f4x) (h_7 : AV J_f4x S_f4x_7 D_f4x_7) : AV J_f4x S_f4x_20 (D_f4x_20 D_f4x_7) :=
 lk mxk (lbc h_7 rfl (lbc ok_f4x_21 rfl lbn)) (sd_f4x_20 D_f4x_7)
def tt_f4x_17 (D_f4x_7 : AQ X_f4x_7 R_f4x) (x : X_f4x_17) : TT Tryz.prog R_f4x :=
 (.call con_f2k (x.I1,x.DR) fun (y2 : R_f2k) =>
 (.ite (!(AX y2.fst 0))
 (.ret ((Sl.mk true 0 (fun i3=>(0 : Int))),((Sl.mk true 0 (fun i3=>(D3.mk 0 0 0 false))),11)))
 (.need (true && (room (x.VX.n + 1) 32)) <|
 (.jump S_f4x_20 (D_f4x_20 D_f4x_7) (X_f4x_20.mk x.VZ (Sl.mk (cond (Nat.beq 1 0) x.VX.nil false) (x.VX.n + 1) (fun i3=>(D3.mk (cond (Nat.blt i3 x.VX.n) (x.VX.get i3).VF x.XX.VF) (cond (Nat.blt i3 x.VX.n) (x.VX.get i3).Va x.XX.Va) (cond (Nat.blt i3 x.VX.n) (x.VX.get i3).Vi x.XX.Vi) (cond (Nat.blt i3 x.VX.n) (x.VX.get i3).Vu x.XX.Vu)))) x.Im x.TI x.F8 y2.snd)))))
theorem sd_f4x_17 (D_f4x_7 : AQ X_f4x_7 R_f4x) (x : X_f4x_17) : (tt_f4x_17 D_f4x_7 x).AH :=
 (TT.sC fun _=>(TT.sI TT.sR (TT.sN TT.sJ)))
def D_f4x_17 (D_f4x_7 : AQ X_f4x_7 R_f4x) : AQ X_f4x_17 R_f4x:=.of (tt_f4x_17 D_f4x_7)
theorem ok_f4x_17 (D_f4x_7 : AQ X_f4x_7 R_f4x) (h_7 : AV J_f4x S_f4x_7 D_f4x_7) : AV J_f4x S_f4x_17 (D_f4x_17 D_f4x_7) :=
 lk mxk (lbc h_7 rfl (lbc ok_f4x_21 rfl (lbc (ok_f4x_20 D_f4x_7 h_7) rfl lbn))) (sd_f4x_17 D_f4x_7)
def tt_f4x_7 (D_f4x_7 : AQ X_f4x_7 R_f4x) (x : X_f4x_7) : TT Tryz.prog R_f4x :=
 (.ite (BS x.F8 x.TI)
 (.need (A0 x.F8 x.Im.n) <|
 (.ite (AX (x.Im.get (Int.toNat x.F8)).Kind 8)
 (.call con_f1f x.DR fun (y2 : R_f1f) =>
 (.jump S_f4x_17 (D_f4x_17 D_f4x_7) (X_f4x_17.mk x.VZ x.VX x.Im x.TI x.F8 (x.Im.get (Int.toNat x.F8)) (D3.mk (x.Im.get (Int.toNat x.F8)).Thread (IntKind.u64.wrap ((x.Im.get (Int.toNat x.F8)).Value - y2)) 0 (AX (x.Im.get (Int.toNat x.F8)).Kind 7)) x.DR)))
 (.ite (AX (x.Im.get (Int.toNat x.F8)).Kind 9)
 (.jump S_f4x_17 (D_f4x_17 D_f4x_7) (X_f4x_17.mk x.VZ x.VX x.Im x.TI x.F8 (x.Im.get (Int.toNat x.F8)) (D3.mk (x.Im.get (Int.toNat x.F8)).Thread 0 (x.Im.get (Int.toNat x.F8)).Value (AX (x.Im.get (Int.toNat x.F8)).Kind 7)) x.DR))
 (.ite (AX (x.Im.get (Int.toNat x.F8)).Kind 10)
 (.need (true && (room (x.VZ.n + 1) 8)) <|
 (.jump S_f4x_17 (D_f4x_17 D_f4x_7) (X_f4x_17.mk (Sl.mk (cond (Nat.beq 1 0) x.VZ.nil false) (x.VZ.n + 1) (fun i2=>(cond (Nat.blt i2 x.VZ.n) (x.VZ.get i2) (x.Im.get (Int.toNat x.F8)).Value))) x.VX x.Im x.TI x.F8 (x.Im.get (Int.toNat x.F8)) (D3.mk (x.Im.get (Int.toNat x.F8)).Thread 0 0 (AX (x.Im.get (Int.toNat x.F8)).Kind 7)) x.DR)))
 (.jump S_f4x_17 (D_f4x_17 D_f4x_7) (X_f4x_17.mk x.VZ x.VX x.Im x.TI x.F8 (x.Im.get (Int.toNat x.F8)) (D3.mk (x.Im.get (Int.toNat x.F8)).Thread 0 0 (AX (x.Im.get (Int.toNat x.F8)).Kind 7)) x.DR))))))
 (.jump S_f4x_21 D_f4x_21 (X_f4x_21.mk x.VZ x.VX)))
theorem sd_f4x_7 (D_f4x_7 : AQ X_f4x_7 R_f4x) (x : X_f4x_7) : (tt_f4x_7 D_f4x_7 x).AH :=
 (TT.sI (TT.sN (TT.sI (TT.sC fun _=>TT.sJ) (TT.sI TT.sJ (TT.sI (TT.sN TT.sJ) TT.sJ)))) TT.sJ)
def D_f4x_7 : AQ X_f4x_7 R_f4x:=AQ.loop tt_f4x_7
theorem ok_f4x_7 : AV J_f4x S_f4x_7 D_f4x_7 :=
 Az fun D_f4x_7 h_7=>lk mxk (lbc h_7 rfl (lbc ok_f4x_21 rfl (lbc (ok_f4x_20 D_f4x_7 h_7) rfl (lbc (ok_f4x_17 D_f4x_7 h_7) rfl lbn)))) (sd_f4x_7 D_f4x_7)
def tt_f4x (x : X_f4x) : TT Tryz.prog R_f4x :=
 (.call con_f3n x.fst fun (y1 : R_f3n) =>
 (.ite (!y1)
 (.ret ((Sl.mk true 0 (fun i2=>(0 : Int))),((Sl.mk true 0 (fun i2=>(D3.mk 0 0 0 false))),1)))
 (.ite (BS 65536 ((x.snd.n : Nat) : Int))
 (.ret ((Sl.mk true 0 (fun i2=>(0 : Int))),((Sl.mk true 0 (fun i2=>(D3.mk 0 0 0 false))),4)))
 (.call con_f1h x.fst fun (y2 : R_f1h) =>
 (.need (!y2.fst.nil) <|
 (.jump S_f4x_7 D_f4x_7 (X_f4x_7.mk (Sl.mk true 0 (fun i3=>(0 : Int))) (Sl.mk true 0 (fun i3=>(D3.mk 0 0 0 false))) x.snd ((x.snd.n : Nat) : Int) 0 y2.fst.x)))))))
theorem sd_f4x (x : X_f4x) : (tt_f4x x).AH :=
 (TT.sC fun _=>(TT.sI TT.sR (TT.sI TT.sR (TT.sC fun _=>(TT.sN TT.sJ)))))
def D_f4x : AQ X_f4x R_f4x:=.of tt_f4x
def con_f4x : A3 Tryz.prog :=
 BZ 33 J_f4x S_f4x D_f4x 2 0 [sh_TPg,hsl_TEv] (lk mxk (lbc ok_f4x_21 rfl (lbc ok_f4x_7 rfl lbn)) sd_f4x)
abbrev X_f4v : Type:=TAk × Bool × Bool
abbrev R_f4v : Type:=Int × Bool
def J_f4v : A9 Tryz.prog :=
 BF Tryz.prog Tryz.f151 21 [(3,3)] [] [] [] [.any,.any] [] [] R_f4v [] fun y=>[V.CC (V.cons ((V.int .i64) y.1) (V.cons (V.bool y.2) (V.unit)))]
def S_f4v : AM :=
 Ae Tryz.f151 3 0 X_f4v (fun x=>[e_TAk x.1,V.bool x.2.1,V.bool x.2.2]) fun l=>(d_TAk (at_ l 0),dB (at_ l 1),dB (at_ l 2))
def tt_f4v (x : X_f4v) : TT Tryz.prog R_f4v :=
 (.ite x.snd.fst
 (.ret (6,true))
 (.ite (AX x.fst.Mode 0)
 (.ret (5,true))
 (.ite (AX x.fst.Mode 2)
 (.ite x.snd.snd
 (.ret (7,true))
 (.ret (0,false)))
 (.ret (0,false)))))
theorem sd_f4v (x : X_f4v) : (tt_f4v x).AH :=
 (TT.sI TT.sR (TT.sI TT.sR (TT.sI (TT.sI TT.sR TT.sR) TT.sR)))
def D_f4v : AQ X_f4v R_f4v:=.of tt_f4v
def con_f4v : A3 Tryz.prog :=
 BZ 151 J_f4v S_f4v D_f4v 3 0 [.any,.any,.any] (lk mxk lbn sd_f4v)
abbrev X_f4p : Type:=TAk × TEv × Bool × TFa
abbrev R_f4p : Type:=TEv × Bool
abbrev RR_f4p : Type:=TEv × Bool × TFa
abbrev p_f4p (y : RR_f4p) : TFa:=y.2.2
abbrev w_f4p (x : X_f4p) : TFa:=x.2.2.2
def J_f4p : A9 Tryz.prog :=
 BF Tryz.prog Tryz.f109 61 [(5,3),(35,1),(37,1),(56,1)] [(2,[.open_ 10])] [] [] [.any,.any] [sh_TFa] [con_fi,con_f1e,con_f1g,con_f1q,con_fq,con_f1r,con_f4v] RR_f4p [] fun y=>[V.CC (V.cons (e_TEv y.1) (V.cons (V.bool y.2.1) (V.unit))),e_TFa y.2.2]
def S_f4p : AM :=
 Ae Tryz.f109 4 1 X_f4p (fun x=>[(V.ptr (.par 0) []),e_TAk x.1,e_TEv x.2.1,V.bool x.2.2.1,e_TFa x.2.2.2]) fun l=>(d_TAk (at_ l 1),d_TEv (at_ l 2),dB (at_ l 3),d_TFa (at_ l 4))
structure X_f4p_5 where
 WX : Bool
 Ww : TAk
 WK : Bool
 Ah : TFa
 HX : TEv
 I0 : TEv
 Wh : TRr
def S_f4p_5 : AM :=
 Ad Tryz.f109 5 (an [3,5,6,8,10,11]) [sh_TFa] [(.loc 6 0,.any),(.loc 8 0,.any),(.loc 10 1,sh_TRr)] X_f4p_5 (fun x=>[V.bool x.WX,(CR e_TAk) x.Ww,(V.ptr (.loc 6 0) []),(V.ptr (.loc 8 0) []),(V.ptr (.loc 10 1) []),V.bool x.WK,e_TFa x.Ah,e_TEv x.HX,e_TEv x.I0,e_TRr x.Wh]) fun l=>⟨dB (at_ l 0),(CS d_TAk) (at_ l 1),dB (at_ l 5),d_TFa (at_ l 6),d_TEv (at_ l 7),d_TEv (at_ l 8),d_TRr (at_ l 9)⟩
abbrev w_f4p_5 (x : X_f4p_5) : TFa:=(x.Ah)
def tt_f4p_5 (x : X_f4p_5) : TT Tryz.prog RR_f4p :=
 (.ite x.WK
 (.call con_f1e x.Wh fun (y1 : R_f1e) =>
 (.call con_f4v (x.Ww,(y1,x.WX)) fun (y2 : R_f4v) =>
 (.ret ((TEv.mk x.HX.Thread y2.fst x.Ww.Ring x.HX.AG x.HX.Value),(y2.snd,x.Ah)))))
 (.call con_fq (x.Ww.Reader,x.Wh) fun (y1 : R_fq) =>
 (.ite (AX x.Ww.Kind 1)
 (.call con_f1r x.Wh fun (y2 : R_f1r) =>
 (.ret ((TEv.mk x.HX.Thread 1 x.Ww.Ring y2 x.HX.Value),(true,x.Ah))))
 (.ret ((TEv.mk x.HX.Thread 3 x.Ww.Ring y1 x.HX.Value),(true,x.Ah))))))
theorem sd_f4p_5 (x : X_f4p_5) : (tt_f4p_5 x).AH :=
 (TT.sI (TT.sC fun _=>(TT.sC fun _=>TT.sR)) (TT.sC fun _=>(TT.sI (TT.sC fun _=>TT.sR) TT.sR)))
theorem roT_f4p_5 (x : X_f4p_5) : TT.Ro p_f4p (w_f4p_5 x) (tt_f4p_5 x) :=
 (TT.rI (TT.rC fun _=>(TT.rC fun _=>(TT.rR rfl))) (TT.rC fun _=>(TT.rI (TT.rC fun _=>(TT.rR rfl)) (TT.rR rfl))))
def D_f4p_5 : AQ X_f4p_5 RR_f4p:=.of tt_f4p_5
theorem ok_f4p_5 : AV J_f4p S_f4p_5 D_f4p_5 :=
 lk mxk lbn sd_f4p_5
theorem ro_f4p_5 : ∀ x y,D_f4p_5.rel x y → p_f4p y = w_f4p_5 x :=
 roT_f4p_5 
def tt_f4p (x : X_f4p) : TT Tryz.prog RR_f4p :=
 (.call con_fi (x.fst.Ring,x.snd.snd.snd) fun (y1 : R_fi) =>
 (.need (!y1.nil) <|
 (.call con_f1g (x.fst.Reader,y1.x) fun (y2 : R_f1g) =>
 (.ite (AX x.fst.Kind 1)
 (.call con_f1e y1.x fun (y3 : R_f1e) =>
 (.ite y3
 (.jump S_f4p_5 D_f4p_5 (X_f4p_5.mk x.snd.snd.fst x.fst true x.snd.snd.snd x.snd.fst (TEv.mk 0 0 0 0 0) y1.x))
 (.call con_f1q y1.x fun (y4 : R_f1q) =>
 (.jump S_f4p_5 D_f4p_5 (X_f4p_5.mk x.snd.snd.fst x.fst y4 x.snd.snd.snd x.snd.fst (TEv.mk 0 0 0 0 0) y1.x)))))
 (.jump S_f4p_5 D_f4p_5 (X_f4p_5.mk x.snd.snd.fst x.fst y2 x.snd.snd.snd x.snd.fst (TEv.mk 0 0 0 0 0) y1.x))))))
theorem sd_f4p (x : X_f4p) : (tt_f4p x).AH :=
 (TT.sC fun _=>(TT.sN (TT.sC fun _=>(TT.sI (TT.sC fun _=>(TT.sI TT.sJ (TT.sC fun _=>TT.sJ))) TT.sJ))))
theorem roT_f4p (x : X_f4p) : TT.Ro p_f4p (w_f4p x) (tt_f4p x) :=
 (TT.rC fun _=>(TT.rN (TT.rC fun _=>(TT.rI (TT.rC fun _=>(TT.rI (TT.rJ (ro_f4p_5 _)) (TT.rC fun _=>(TT.rJ (ro_f4p_5 _))))) (TT.rJ (ro_f4p_5 _))))))
def D_f4p : AQ X_f4p R_f4p:=.ro (.of tt_f4p) (fun y=>(y.1,y.2.1)) (fun y x=>(y.1,y.2,x.2.2.2)) fun x y h=>congrArg (fun o=>(y.1,y.2.1,o)) (roT_f4p x y h)
def con_f4p : A3 Tryz.prog :=
 C3 109 J_f4p S_f4p (.of tt_f4p) D_f4p (fun y x=>(y.1,y.2,x.2.2.2)) (fun y=>V.CC (V.cons (e_TEv y.1) (V.cons (V.bool y.2) (V.unit)))) 4 1 [.any,.any,.any,.any] (lk mxk (lbc ok_f4p_5 rfl lbn) sd_f4p) (fun x=>⟨(nu_e_TFa : ∀ y,(e_TFa y).CV) (x.2.2.2),trivial⟩)
abbrev Dsl_TRs : Type:=(Sl TRs)
def esl_TRs : Dsl_TRs → V:=(LA none 4 e_TRs)
def dsl_TRs : V → Dsl_TRs:=(LX d_TRs)
def hsl_TRs : Sh:=(.sl none 4 (e_TRs (d_TRs .undef)))
structure TSt where
 AB : (Sl TTh)
 AJ : (Sl TRs)
 FD : Int
 Reads : Int
 CF : Bool
def d_TSt (v : V) : TSt :=
 ⟨dsl_TTh (fd v 0),dsl_TRs (fd v 1),dI (fd v 2),dI (fd v 3),dB (fd v 4)⟩
def e_TSt (x : TSt) : V :=
 V.cons (esl_TTh x.AB) (V.cons (esl_TRs x.AJ) (V.cons ((V.int .u64) x.FD) (V.cons ((V.int .u64) x.Reads) (V.cons (V.bool x.CF) (V.unit)))))
theorem nu_e_TSt (x : TSt) : (e_TSt x).CV:=⟨trivial,trivial,trivial,trivial,trivial,trivial⟩
def sh_TSt : Sh:=(.cons hsl_TTh (.cons hsl_TRs .any))
abbrev X_f4o : Type:=(Ar TTh)
abbrev R_f4o : Type:=(Sl TTh)
abbrev RR_f4o : Type:=(Sl TTh) × (Ar TTh)
abbrev p_f4o (y : RR_f4o) : (Ar TTh):=y.2
abbrev w_f4o (x : X_f4o) : (Ar TTh):=x
def J_f4o : A9 Tryz.prog :=
 BF Tryz.prog Tryz.f112 8 [(5,1),(6,1)] [] [] [.shut 2] [hosl_TTh] [.any] [] RR_f4o [] fun y=>[eosl_TTh y.1,(Jy 14 e_TTh) y.2]
def S_f4o : AM :=
 Ae Tryz.f112 1 1 X_f4o (fun x=>[(V.own (.par 0) [] 14 x.n 0 x.n),(Jy 14 e_TTh) x]) fun l=>((Pz d_TTh) (at_ l 1))
def tt_f4o (x : X_f4o) : TT Tryz.prog RR_f4o :=
 (.need (Nat.blt 0 x.n) <|
 (.need ((true && (Nat.beq x.n x.n)) && (room ((0 : Nat) + x.n) 128)) <|
 (.side (∀ i1 : Nat,((i1 < x.n) → ((true && (true && (true && (true && (true && ((true && (true && (true && (true && (true && (true && (true && (true && true)))))))) && (true && true))))))) = true))) <|
 (.ret ((Sl.mk (cond (Nat.beq x.n 0) false false) ((0 : Nat) + x.n) (fun i1=>(TTh.mk (cond (Nat.blt i1 0) (0 : Int) (x.get ((0 : Nat) + (i1 - 0))).At) (cond (Nat.blt i1 0) (0 : Int) (x.get ((0 : Nat) + (i1 - 0))).Phase) (cond (Nat.blt i1 0) (0 : Int) (x.get ((0 : Nat) + (i1 - 0))).Ring) (cond (Nat.blt i1 0) (0 : Int) (x.get ((0 : Nat) + (i1 - 0))).Status) (cond (Nat.blt i1 0) (0 : Int) (x.get ((0 : Nat) + (i1 - 0))).AG) (fun i2=>(cond (Nat.blt i1 0) (0 : Int) ((x.get ((0 : Nat) + (i1 - 0))).Af i2))) (Sl.mk (cond (Nat.blt i1 0) true (x.get ((0 : Nat) + (i1 - 0))).Seen.nil) (cond (Nat.blt i1 0) (0 : Nat) (x.get ((0 : Nat) + (i1 - 0))).Seen.n) (fun i2=>(cond (Nat.blt i1 0) (0 : Int) ((x.get ((0 : Nat) + (i1 - 0))).Seen.get i2))))))),x)))))
theorem sd_f4o (x : X_f4o) : (tt_f4o x).AH :=
 (TT.sN (TT.sN (TT.sS (fun _ _=>rfl) TT.sR)))
theorem roT_f4o (x : X_f4o) : TT.Ro p_f4o (w_f4o x) (tt_f4o x) :=
 (TT.rN (TT.rN (TT.rS (TT.rR rfl))))
def D_f4o : AQ X_f4o R_f4o:=.ro (.of tt_f4o) (fun y=>(y.1)) (fun y x=>(y,x)) fun x y h=>congrArg (fun o=>(y.1,o)) (roT_f4o x y h)
def con_f4o : A3 Tryz.prog :=
 C3 112 J_f4o S_f4o (.of tt_f4o) D_f4o (fun y x=>(y,x)) (fun y=>eosl_TTh y) 1 1 [.any] (lk mxk lbn sd_f4o) (fun x=>⟨(fun _ _=>(nu_e_TTh) _ : ∀ y,((Jy 14 e_TTh) y).CV) (x),trivial⟩)
abbrev X_f4s : Type:=(Sl Int)
abbrev R_f4s : Type:=(Sl Int)
def J_f4s : A9 Tryz.prog :=
 BF Tryz.prog Tryz.f113 8 [(6,1)] [] [] [.shut 2] [Ep] [] [] R_f4s [] fun y=>[EU y]
def S_f4s : AM :=
 Ae Tryz.f113 1 0 X_f4s (fun x=>[EU x]) fun l=>(FO (at_ l 0))
def tt_f4s (x : X_f4s) : TT Tryz.prog R_f4s :=
 (.ite x.nil
 (.ret (Sl.mk true 0 (fun i1=>(0 : Int))))
 (.need (true && (room ((0 : Nat) + x.n) 8)) <|
 (.ret (Sl.mk (cond (Nat.beq x.n 0) false false) ((0 : Nat) + x.n) (fun i1=>(cond (Nat.blt i1 0) (0 : Int) (x.get (i1 - 0))))))))
theorem sd_f4s (x : X_f4s) : (tt_f4s x).AH :=
 (TT.sI TT.sR (TT.sN TT.sR))
def D_f4s : AQ X_f4s R_f4s:=.of tt_f4s
def con_f4s : A3 Tryz.prog :=
 BZ 113 J_f4s S_f4s D_f4s 1 0 [Ep] (lk mxk lbn sd_f4s)
abbrev DslA_TRs : Type:=(Sl TRs)
def eslA_TRs : DslA_TRs → V:=(LA (some 124) 4 e_TRs)
def dslA_TRs : V → DslA_TRs:=(LX d_TRs)
def hslA_TRs : Sh:=(.sl (some 124) 4 (e_TRs (d_TRs .undef)))
def e_TSt_o0_1 (x : TSt) : V :=
 V.cons (eosl_TTh x.AB) (V.cons (eslA_TRs x.AJ) (V.cons ((V.int .u64) x.FD) (V.cons ((V.int .u64) x.Reads) (V.cons (V.bool x.CF) (V.unit)))))
theorem nu_e_TSt_o0_1 (x : TSt) : (e_TSt_o0_1 x).CV:=⟨(fun _ _=>(nu_e_TTh) _ : ∀ y,(eosl_TTh y).CV) x.AB,trivial,trivial,trivial,trivial,trivial⟩
def sh_TSt_o0_1 : Sh:=(.cons hosl_TTh (.cons hslA_TRs .any))
def e_TSt_1 (x : TSt) : V :=
 V.cons (esl_TTh x.AB) (V.cons (eslA_TRs x.AJ) (V.cons ((V.int .u64) x.FD) (V.cons ((V.int .u64) x.Reads) (V.cons (V.bool x.CF) (V.unit)))))
theorem nu_e_TSt_1 (x : TSt) : (e_TSt_1 x).CV:=⟨trivial,trivial,trivial,trivial,trivial,trivial⟩
def sh_TSt_1 : Sh:=(.cons hsl_TTh (.cons hslA_TRs .any))
abbrev X_f4l : Type:=TFa
abbrev R_f4l : Type:=TSt
abbrev RR_f4l : Type:=TSt × TFa
abbrev p_f4l (y : RR_f4l) : TFa:=y.2
abbrev w_f4l (x : X_f4l) : TFa:=x
def J_f4l : A9 Tryz.prog :=
 BF Tryz.prog Tryz.f69 64 [(56,1)] [(4,[.back (.loc 12 0)]),(5,[.back (.loc 37 0),.back (.loc 34 0),.back (.loc 28 0),.back (.loc 12 0)]),(6,[.back (.loc 37 0),.back (.loc 34 0),.back (.loc 28 0),.back (.loc 12 0)]),(7,[.back (.loc 37 0),.back (.loc 34 0),.back (.loc 28 0),.back (.loc 12 0)]),(8,[.back (.loc 37 0),.back (.loc 34 0),.back (.loc 28 0),.back (.loc 12 0)]),(9,[.back (.loc 37 0),.back (.loc 34 0),.back (.loc 28 0),.back (.loc 12 0),.Ud (.loc 2 0) [.CI 0 0]]),(10,[.back (.loc 54 0),.back (.loc 37 0),.back (.loc 34 0),.back (.loc 28 0),.back (.loc 12 0)]),(11,[.back (.loc 54 0),.back (.loc 37 0),.back (.loc 34 0),.back (.loc 28 0),.back (.loc 12 0)]),(12,[.back (.loc 37 0),.back (.loc 34 0),.back (.loc 28 0),.back (.loc 12 0)]),(13,[.back (.loc 54 0),.back (.loc 37 0),.back (.loc 34 0),.back (.loc 28 0),.back (.loc 12 0)]),(14,[.back (.loc 54 0),.back (.loc 49 0),.back (.loc 37 0),.back (.loc 34 0),.back (.loc 28 0),.back (.loc 12 0)])] [(3,[.Ir (.par 0) [.CI 1 2] 12]),(7,[.Ir (.loc 2 0) [.CI 0 0] 34,.Ir (.loc 2 0) [.CI 0 0] 37])] [.back (.loc 54 0),.back (.loc 49 0),.back (.loc 37 0),.back (.loc 34 0),.back (.loc 28 0),.back (.loc 12 0)] [sh_TSt] [sh_TFa] [con_f1u,con_f4o,con_f4s] RR_f4l [(0,[⟨.loc 12 0,.par 0,[.CI 1 2],none,none⟩,⟨.loc 34 0,.loc 2 0,[.CI 0 0],none,none⟩,⟨.loc 37 0,.loc 2 0,[.CI 0 0],none,none⟩]),(5,[⟨.loc 12 0,.par 0,[.CI 1 2],none,none⟩,⟨.loc 34 0,.loc 2 0,[.CI 0 0],none,none⟩,⟨.loc 37 0,.loc 2 0,[.CI 0 0],none,none⟩]),(9,[⟨.loc 12 0,.par 0,[.CI 1 2],none,none⟩,⟨.loc 34 0,.loc 2 0,[.CI 0 0],none,none⟩,⟨.loc 37 0,.loc 2 0,[.CI 0 0],none,none⟩]),(10,[⟨.loc 49 0,.par 0,[.CI 2 3],none,none⟩,⟨.loc 12 0,.par 0,[.CI 1 2],none,none⟩,⟨.loc 34 0,.loc 2 0,[.CI 0 0],none,none⟩,⟨.loc 37 0,.loc 2 0,[.CI 0 0],none,none⟩])] fun y=>[e_TSt y.1,e_TFa y.2]
def S_f4l : AM :=
 Ae Tryz.f69 1 1 X_f4l (fun x=>[(V.ptr (.par 0) []),e_TFa x]) fun l=>(d_TFa (at_ l 1))
structure X_f4l_5 where
 TH : Int
 UO : Int
 Ah : TFa
 Fe : TSt
def S_f4l_5 : AM :=
 Ad Tryz.f69 5 (an [0,2,29,30]) [sh_TFa] [(.loc 2 0,sh_TSt_o0_1)] X_f4l_5 (fun x=>[(V.ptr (.par 0) []),(V.ptr (.loc 2 0) []),(V.int .i64) x.TH,(V.int .i64) x.UO,e_TFa x.Ah,e_TSt_o0_1 x.Fe]) fun l=>⟨dI (at_ l 2),dI (at_ l 3),d_TFa (at_ l 4),d_TSt (at_ l 5)⟩
structure X_f4l_9 where
 Ah : TFa
 Fe : TSt
def S_f4l_9 : AM :=
 Ad Tryz.f69 9 (an [0,2]) [sh_TFa] [(.loc 2 0,sh_TSt_1)] X_f4l_9 (fun x=>[(V.ptr (.par 0) []),(V.ptr (.loc 2 0) []),e_TFa x.Ah,e_TSt_1 x.Fe]) fun l=>⟨d_TFa (at_ l 2),d_TSt (at_ l 3)⟩
structure X_f4l_10 where
 We : Int
 VO : Int
 Ah : TFa
 Fe : TSt
def S_f4l_10 : AM :=
 Ad Tryz.f69 10 (an [2,49,50,51]) [sh_TFa] [(.loc 2 0,sh_TSt_1),(.loc 49 0,.any)] X_f4l_10 (fun x=>[(V.ptr (.loc 2 0) []),(V.own (.loc 49 0) [] 1 x.Ah.rings.n 0 x.Ah.rings.n),(V.int .i64) x.We,(V.int .i64) x.VO,V.cons (e_TPg x.Ah.p) (V.cons (eosl_TTh x.Ah.threads) (V.cons (V.Bl (.loc 49 0) 102 1 x.Ah.rings.nil x.Ah.rings.n) (V.cons ((V.int .u64) x.Ah.now) (V.cons ((V.int .u64) x.Ah.reads) (V.cons (V.bool x.Ah.ended) (V.unit)))))),e_TSt_1 x.Fe,(V.arr 1 x.Ah.rings.n fun i=>ebox_TRr (x.Ah.rings.get i))]) fun l=>⟨dI (at_ l 2),dI (at_ l 3),{ d_TFa (at_ l 4) with rings:=⟨(S3 (fd (at_ l 4) 2)).nil,(S3 (fd (at_ l 4) 2)).n,(Pz dbox_TRr (at_ l 6)).get⟩ },d_TSt (at_ l 5)⟩
abbrev w_f4l_5 (x : X_f4l_5) : TFa:=(x.Ah)
abbrev w_f4l_9 (x : X_f4l_9) : TFa:=(x.Ah)
abbrev w_f4l_10 (x : X_f4l_10) : TFa:=(x.Ah)
def tt_f4l_10 (D_f4l_10 : AQ X_f4l_10 RR_f4l) (x : X_f4l_10) : TT Tryz.prog RR_f4l :=
 (.ite (BS x.VO x.We)
 (.need (A0 x.VO x.Ah.rings.n) <|
 (.need (((Nat.beq x.Ah.rings.n x.Ah.rings.n) && true) && (!(x.Ah.rings.get ((0 : Nat) + (Int.toNat x.VO))).nil)) <|
 (.call con_f1u (x.Ah.rings.get ((0 : Nat) + (Int.toNat x.VO))).x fun (y2 : R_f1u) =>
 (.need (true && (room (x.Fe.AJ.n + 1) 64)) <|
 (.need ((true && true) && (((Nat.beq x.Ah.rings.n x.Ah.rings.n) && (Nat.blt ((0 : Nat) + (Int.toNat x.VO)) x.Ah.rings.n)) && (!(x.Ah.rings.get ((0 : Nat) + (Int.toNat x.VO))).nil))) <|
 (.side (((fun v : Nat → V=>v = v) (fun i3=>(cond (Nat.beq i3 ((0 : Nat) + (Int.toNat x.VO))) (V.ptr (Id.loc 54 0) List.nil) (V.Ai (x.Ah.rings.get i3).nil (V.cons (V.cons (V.int IntKind.u64 (x.Ah.rings.get i3).x.AA.tail) (V.cons (V.A4 41 1 (x.Ah.rings.get i3).x.AA.AD.nil (x.Ah.rings.get i3).x.AA.AD.n (fun i4=>(V.int IntKind.u64 ((x.Ah.rings.get i3).x.AA.AD.get i4)))) V.unit)) (V.cons (V.Ai (x.Ah.rings.get i3).x.s.nil (V.cons (V.A4 206 3 (x.Ah.rings.get i3).x.s.x.l.nil (x.Ah.rings.get i3).x.s.x.l.n (fun i4=>(V.cons (V.int IntKind.u64 ((x.Ah.rings.get i3).x.s.x.l.get i4).AO) (V.cons (V.int IntKind.u64 ((x.Ah.rings.get i3).x.s.x.l.get i4).Value) (V.cons (V.int IntKind.i64 ((x.Ah.rings.get i3).x.s.x.l.get i4).Left) V.unit))))) (V.cons (V.int IntKind.i64 (x.Ah.rings.get i3).x.s.x.AW) V.unit))) (V.cons (V.int IntKind.u64 (x.Ah.rings.get i3).x.most) (V.cons (V.bool (x.Ah.rings.get i3).x.closed) V.unit)))))))) ∧ (((fun v : V=>v = v) (V.cons (V.cons (V.int IntKind.u64 (x.Ah.rings.get ((0 : Nat) + (Int.toNat x.VO))).x.AA.tail) (V.cons (V.A4 41 1 (x.Ah.rings.get ((0 : Nat) + (Int.toNat x.VO))).x.AA.AD.nil (x.Ah.rings.get ((0 : Nat) + (Int.toNat x.VO))).x.AA.AD.n (fun i3=>(V.int IntKind.u64 ((x.Ah.rings.get ((0 : Nat) + (Int.toNat x.VO))).x.AA.AD.get i3)))) V.unit)) (V.cons (V.Ai (x.Ah.rings.get ((0 : Nat) + (Int.toNat x.VO))).x.s.nil (V.cons (V.A4 206 3 (x.Ah.rings.get ((0 : Nat) + (Int.toNat x.VO))).x.s.x.l.nil (x.Ah.rings.get ((0 : Nat) + (Int.toNat x.VO))).x.s.x.l.n (fun i3=>(V.cons (V.int IntKind.u64 ((x.Ah.rings.get ((0 : Nat) + (Int.toNat x.VO))).x.s.x.l.get i3).AO) (V.cons (V.int IntKind.u64 ((x.Ah.rings.get ((0 : Nat) + (Int.toNat x.VO))).x.s.x.l.get i3).Value) (V.cons (V.int IntKind.i64 ((x.Ah.rings.get ((0 : Nat) + (Int.toNat x.VO))).x.s.x.l.get i3).Left) V.unit))))) (V.cons (V.int IntKind.i64 (x.Ah.rings.get ((0 : Nat) + (Int.toNat x.VO))).x.s.x.AW) V.unit))) (V.cons (V.int IntKind.u64 (x.Ah.rings.get ((0 : Nat) + (Int.toNat x.VO))).x.most) (V.cons (V.bool (x.Ah.rings.get ((0 : Nat) + (Int.toNat x.VO))).x.closed) V.unit))))) ∧ ((fun v : V=>v = v) (V.Ai (x.Ah.rings.get ((0 : Nat) + (Int.toNat x.VO))).nil (V.cons (V.cons (V.int IntKind.u64 (x.Ah.rings.get ((0 : Nat) + (Int.toNat x.VO))).x.AA.tail) (V.cons (V.A4 41 1 (x.Ah.rings.get ((0 : Nat) + (Int.toNat x.VO))).x.AA.AD.nil (x.Ah.rings.get ((0 : Nat) + (Int.toNat x.VO))).x.AA.AD.n (fun i3=>(V.int IntKind.u64 ((x.Ah.rings.get ((0 : Nat) + (Int.toNat x.VO))).x.AA.AD.get i3)))) V.unit)) (V.cons (V.Ai (x.Ah.rings.get ((0 : Nat) + (Int.toNat x.VO))).x.s.nil (V.cons (V.A4 206 3 (x.Ah.rings.get ((0 : Nat) + (Int.toNat x.VO))).x.s.x.l.nil (x.Ah.rings.get ((0 : Nat) + (Int.toNat x.VO))).x.s.x.l.n (fun i3=>(V.cons (V.int IntKind.u64 ((x.Ah.rings.get ((0 : Nat) + (Int.toNat x.VO))).x.s.x.l.get i3).AO) (V.cons (V.int IntKind.u64 ((x.Ah.rings.get ((0 : Nat) + (Int.toNat x.VO))).x.s.x.l.get i3).Value) (V.cons (V.int IntKind.i64 ((x.Ah.rings.get ((0 : Nat) + (Int.toNat x.VO))).x.s.x.l.get i3).Left) V.unit))))) (V.cons (V.int IntKind.i64 (x.Ah.rings.get ((0 : Nat) + (Int.toNat x.VO))).x.s.x.AW) V.unit))) (V.cons (V.int IntKind.u64 (x.Ah.rings.get ((0 : Nat) + (Int.toNat x.VO))).x.most) (V.cons (V.bool (x.Ah.rings.get ((0 : Nat) + (Int.toNat x.VO))).x.closed) V.unit)))))))) <|
 (.jump S_f4l_10 D_f4l_10 (X_f4l_10.mk x.We (IntKind.i64.wrap (x.VO + 1)) x.Ah (TSt.mk x.Fe.AB (Sl.mk (cond (Nat.beq 1 0) x.Fe.AJ.nil false) (x.Fe.AJ.n + 1) (fun i3=>(TRs.mk (cond (Nat.blt i3 x.Fe.AJ.n) (x.Fe.AJ.get i3).Aq y2.Aq) (Sl.mk (cond (Nat.blt i3 x.Fe.AJ.n) (x.Fe.AJ.get i3).AY.nil y2.AY.nil) (cond (Nat.blt i3 x.Fe.AJ.n) (x.Fe.AJ.get i3).AY.n y2.AY.n) (fun i4=>(cond (Nat.blt i3 x.Fe.AJ.n) ((x.Fe.AJ.get i3).AY.get i4) (y2.AY.get i4)))) (cond (Nat.blt i3 x.Fe.AJ.n) (x.Fe.AJ.get i3).Aw y2.Aw) (Sl.mk (cond (Nat.blt i3 x.Fe.AJ.n) (x.Fe.AJ.get i3).Ao.nil y2.Ao.nil) (cond (Nat.blt i3 x.Fe.AJ.n) (x.Fe.AJ.get i3).Ao.n y2.Ao.n) (fun i4=>(TSo.mk (cond (Nat.blt i3 x.Fe.AJ.n) ((x.Fe.AJ.get i3).Ao.get i4).AO (y2.Ao.get i4).AO) (cond (Nat.blt i3 x.Fe.AJ.n) ((x.Fe.AJ.get i3).Ao.get i4).Value (y2.Ao.get i4).Value) (cond (Nat.blt i3 x.Fe.AJ.n) ((x.Fe.AJ.get i3).Ao.get i4).Left (y2.Ao.get i4).Left))))))) x.Fe.FD x.Fe.Reads x.Fe.CF)))))))))
 (.need ((true && true) && (Nat.beq x.Ah.rings.n x.Ah.rings.n)) <|
 (.ret (x.Fe,x.Ah))))
theorem sd_f4l_10 (D_f4l_10 : AQ X_f4l_10 RR_f4l) (x : X_f4l_10) : (tt_f4l_10 D_f4l_10 x).AH :=
 (TT.sI (TT.sN (TT.sN (TT.sC fun _=>(TT.sN (TT.sN (TT.sS ⟨rfl,⟨rfl,rfl⟩⟩ TT.sJ)))))) (TT.sN TT.sR))
theorem roT_f4l_10 (D_f4l_10 : AQ X_f4l_10 RR_f4l) (r10 : ∀ x y,D_f4l_10.rel x y → p_f4l y = w_f4l_10 x) (x : X_f4l_10) : TT.Ro p_f4l (w_f4l_10 x) (tt_f4l_10 D_f4l_10 x) :=
 (TT.rI (TT.rN (TT.rN (TT.rC fun _=>(TT.rN (TT.rN (TT.rS (TT.rJ (r10 _)))))))) (TT.rN (TT.rR rfl)))
def D_f4l_10 : AQ X_f4l_10 RR_f4l:=AQ.loop tt_f4l_10
theorem ok_f4l_10 : AV J_f4l S_f4l_10 D_f4l_10 :=
 Az fun D_f4l_10 h_10=>lk mxk (lbc h_10 rfl lbn) (sd_f4l_10 D_f4l_10)
theorem ro_f4l_10 : ∀ x y,D_f4l_10.rel x y → p_f4l y = w_f4l_10 x :=
 Ju fun D_f4l_10 r10=>roT_f4l_10 D_f4l_10 r10
def tt_f4l_9 (x : X_f4l_9) : TT Tryz.prog RR_f4l :=
 (.jump S_f4l_10 D_f4l_10 (X_f4l_10.mk ((x.Ah.rings.n : Nat) : Int) 0 x.Ah x.Fe))
theorem sd_f4l_9 (x : X_f4l_9) : (tt_f4l_9 x).AH :=
 TT.sJ
theorem roT_f4l_9 (x : X_f4l_9) : TT.Ro p_f4l (w_f4l_9 x) (tt_f4l_9 x) :=
 (TT.rJ (ro_f4l_10 _))
def D_f4l_9 : AQ X_f4l_9 RR_f4l:=.of tt_f4l_9
theorem ok_f4l_9 : AV J_f4l S_f4l_9 D_f4l_9 :=
 lk mxk (lbc ok_f4l_10 rfl lbn) sd_f4l_9
theorem ro_f4l_9 : ∀ x y,D_f4l_9.rel x y → p_f4l y = w_f4l_9 x :=
 roT_f4l_9 
def tt_f4l_5 (D_f4l_5 : AQ X_f4l_5 RR_f4l) (x : X_f4l_5) : TT Tryz.prog RR_f4l :=
 (.ite (BS x.UO x.TH)
 (.need (A0 x.UO x.Fe.AB.n) <|
 (.need ((Nat.beq x.Fe.AB.n x.Fe.AB.n) && true) <|
 (.call con_f4s (x.Fe.AB.get ((0 : Nat) + (Int.toNat x.UO))).Seen fun (y2 : R_f4s) =>
 (.need (A0 x.UO x.Fe.AB.n) <|
 (.need ((Nat.beq x.Fe.AB.n x.Fe.AB.n) && true) <|
 (.need ((true && true) && (Nat.beq x.Fe.AB.n x.Fe.AB.n)) <|
 (.jump S_f4l_5 D_f4l_5 (X_f4l_5.mk x.TH (IntKind.i64.wrap (x.UO + 1)) x.Ah (TSt.mk (Sl.mk x.Fe.AB.nil x.Fe.AB.n (fun i3=>(TTh.mk (cond (Nat.beq i3 ((0 : Nat) + (Int.toNat x.UO))) (x.Fe.AB.get ((0 : Nat) + (Int.toNat x.UO))).At (x.Fe.AB.get i3).At) (cond (Nat.beq i3 ((0 : Nat) + (Int.toNat x.UO))) (x.Fe.AB.get ((0 : Nat) + (Int.toNat x.UO))).Phase (x.Fe.AB.get i3).Phase) (cond (Nat.beq i3 ((0 : Nat) + (Int.toNat x.UO))) (x.Fe.AB.get ((0 : Nat) + (Int.toNat x.UO))).Ring (x.Fe.AB.get i3).Ring) (cond (Nat.beq i3 ((0 : Nat) + (Int.toNat x.UO))) (x.Fe.AB.get ((0 : Nat) + (Int.toNat x.UO))).Status (x.Fe.AB.get i3).Status) (cond (Nat.beq i3 ((0 : Nat) + (Int.toNat x.UO))) (x.Fe.AB.get ((0 : Nat) + (Int.toNat x.UO))).AG (x.Fe.AB.get i3).AG) (fun i4=>(cond (Nat.beq i3 ((0 : Nat) + (Int.toNat x.UO))) ((x.Fe.AB.get ((0 : Nat) + (Int.toNat x.UO))).Af i4) ((x.Fe.AB.get i3).Af i4))) (Sl.mk (cond (Nat.beq i3 ((0 : Nat) + (Int.toNat x.UO))) y2.nil (x.Fe.AB.get i3).Seen.nil) (cond (Nat.beq i3 ((0 : Nat) + (Int.toNat x.UO))) y2.n (x.Fe.AB.get i3).Seen.n) (fun i4=>(cond (Nat.beq i3 ((0 : Nat) + (Int.toNat x.UO))) (y2.get i4) ((x.Fe.AB.get i3).Seen.get i4))))))) x.Fe.AJ x.Fe.FD x.Fe.Reads x.Fe.CF)))))))))
 (.side (∀ i2 : Nat,((i2 < x.Fe.AB.n) → ((true && (true && (true && (true && (true && ((true && (true && (true && (true && (true && (true && (true && (true && true)))))))) && (true && true))))))) = true))) <|
 (.jump S_f4l_9 D_f4l_9 (X_f4l_9.mk x.Ah x.Fe))))
theorem sd_f4l_5 (D_f4l_5 : AQ X_f4l_5 RR_f4l) (x : X_f4l_5) : (tt_f4l_5 D_f4l_5 x).AH :=
 (TT.sI (TT.sN (TT.sN (TT.sC fun _=>(TT.sN (TT.sN (TT.sN TT.sJ)))))) (TT.sS (fun _ _=>rfl) TT.sJ))
theorem roT_f4l_5 (D_f4l_5 : AQ X_f4l_5 RR_f4l) (r5 : ∀ x y,D_f4l_5.rel x y → p_f4l y = w_f4l_5 x) (x : X_f4l_5) : TT.Ro p_f4l (w_f4l_5 x) (tt_f4l_5 D_f4l_5 x) :=
 (TT.rI (TT.rN (TT.rN (TT.rC fun _=>(TT.rN (TT.rN (TT.rN (TT.rJ (r5 _)))))))) (TT.rS (TT.rJ (ro_f4l_9 _))))
def D_f4l_5 : AQ X_f4l_5 RR_f4l:=AQ.loop tt_f4l_5
theorem ok_f4l_5 : AV J_f4l S_f4l_5 D_f4l_5 :=
 Az fun D_f4l_5 h_5=>lk mxk (lbc h_5 rfl (lbc ok_f4l_10 rfl (lbc ok_f4l_9 rfl lbn))) (sd_f4l_5 D_f4l_5)
theorem ro_f4l_5 : ∀ x y,D_f4l_5.rel x y → p_f4l y = w_f4l_5 x :=
 Ju fun D_f4l_5 r5=>roT_f4l_5 D_f4l_5 r5
def tt_f4l (x : X_f4l) : TT Tryz.prog RR_f4l :=
 (.call con_f4o (Ar.mk x.threads.n x.threads.get) fun (y1 : R_f4o) =>
 (.need ((true && true) && (Nat.beq x.threads.n x.threads.n)) <|
 (.need ((true && true) && (Nat.beq y1.n y1.n)) <|
 (.jump S_f4l_5 D_f4l_5 (X_f4l_5.mk ((y1.n : Nat) : Int) 0 x (TSt.mk y1 (Sl.mk true 0 (fun i2=>(TRs.mk 0 (Sl.mk true 0 (fun i3=>(0 : Int))) false (Sl.mk true 0 (fun i3=>(TSo.mk 0 0 0)))))) x.now x.reads x.ended))))))
theorem sd_f4l (x : X_f4l) : (tt_f4l x).AH :=
 (TT.sC fun _=>(TT.sN (TT.sN TT.sJ)))
theorem roT_f4l (x : X_f4l) : TT.Ro p_f4l (w_f4l x) (tt_f4l x) :=
 (TT.rC fun _=>(TT.rN (TT.rN (TT.rJ (ro_f4l_5 _)))))
def D_f4l : AQ X_f4l R_f4l:=.ro (.of tt_f4l) (fun y=>(y.1)) (fun y x=>(y,x)) fun x y h=>congrArg (fun o=>(y.1,o)) (roT_f4l x y h)
def con_f4l : A3 Tryz.prog :=
 C3 69 J_f4l S_f4l (.of tt_f4l) D_f4l (fun y x=>(y,x)) (fun y=>e_TSt y) 1 1 [.any] (lk mxk (lbc ok_f4l_10 rfl (lbc ok_f4l_9 rfl (lbc ok_f4l_5 rfl lbn))) sd_f4l) (fun x=>⟨(nu_e_TFa : ∀ y,(e_TFa y).CV) (x),trivial⟩)
abbrev X_f4q : Type:=(Sl Int) × TEv × TFa
abbrev R_f4q : Type:=TEv
abbrev RR_f4q : Type:=TEv × TFa
abbrev p_f4q (y : RR_f4q) : TFa:=y.2
abbrev w_f4q (x : X_f4q) : TFa:=x.2.2
def J_f4q : A9 Tryz.prog :=
 BF Tryz.prog Tryz.f110 30 [(22,1)] [] [] [] [.any] [sh_TFa] [con_f4l] RR_f4q [] fun y=>[e_TEv y.1,e_TFa y.2]
def S_f4q : AM :=
 Ae Tryz.f110 3 1 X_f4q (fun x=>[(V.ptr (.par 0) []),EU x.1,e_TEv x.2.1,e_TFa x.2.2]) fun l=>(FO (at_ l 1),d_TEv (at_ l 2),d_TFa (at_ l 3))
structure X_f4q_5 where
 VM : (Sl Int)
 Ah : TFa
 BA : TEv
 HX : TEv
 HF : TSt
def S_f4q_5 : AM :=
 Ad Tryz.f110 5 [(1,Ep),(5,.any),(6,.any),(7,.any)] [sh_TFa] [(.loc 5 0,.any),(.loc 6 0,.any),(.loc 7 0,sh_TSt)] X_f4q_5 (fun x=>[EU x.VM,(V.ptr (.loc 5 0) []),(V.ptr (.loc 6 0) []),(V.ptr (.loc 7 0) []),e_TFa x.Ah,e_TEv x.BA,e_TEv x.HX,e_TSt x.HF]) fun l=>⟨FO (at_ l 0),d_TFa (at_ l 4),d_TEv (at_ l 5),d_TEv (at_ l 6),d_TSt (at_ l 7)⟩
abbrev w_f4q_5 (x : X_f4q_5) : TFa:=(x.Ah)
def tt_f4q_5 (x : X_f4q_5) : TT Tryz.prog RR_f4q :=
 (.need (A0 x.HF.Reads x.VM.n) <|
 (.ret ((TEv.mk x.BA.Thread 10 x.BA.Ring x.BA.AG (x.VM.get (Int.toNat x.HF.Reads))),x.Ah)))
theorem sd_f4q_5 (x : X_f4q_5) : (tt_f4q_5 x).AH :=
 (TT.sN TT.sR)
theorem roT_f4q_5 (x : X_f4q_5) : TT.Ro p_f4q (w_f4q_5 x) (tt_f4q_5 x) :=
 (TT.rN (TT.rR rfl))
def D_f4q_5 : AQ X_f4q_5 RR_f4q:=.of tt_f4q_5
theorem ok_f4q_5 : AV J_f4q S_f4q_5 D_f4q_5 :=
 lk mxk lbn sd_f4q_5
theorem ro_f4q_5 : ∀ x y,D_f4q_5.rel x y → p_f4q y = w_f4q_5 x :=
 roT_f4q_5 
def tt_f4q (x : X_f4q) : TT Tryz.prog RR_f4q :=
 (.call con_f4l x.snd.snd fun (y1 : R_f4l) =>
 (.ite y1.CF
 (.ret ((TEv.mk x.snd.fst.Thread 11 x.snd.fst.Ring x.snd.fst.AG x.snd.fst.Value),x.snd.snd))
 (.ite (Bd (IntKind.u64.wrap ((x.fst.n : Nat) : Int)) y1.Reads)
 (.ret ((TEv.mk x.snd.fst.Thread 11 x.snd.fst.Ring x.snd.fst.AG x.snd.fst.Value),x.snd.snd))
 (.jump S_f4q_5 D_f4q_5 (X_f4q_5.mk x.fst x.snd.snd x.snd.fst (TEv.mk 0 0 0 0 0) y1)))))
theorem sd_f4q (x : X_f4q) : (tt_f4q x).AH :=
 (TT.sC fun _=>(TT.sI TT.sR (TT.sI TT.sR TT.sJ)))
theorem roT_f4q (x : X_f4q) : TT.Ro p_f4q (w_f4q x) (tt_f4q x) :=
 (TT.rC fun _=>(TT.rI (TT.rR rfl) (TT.rI (TT.rR rfl) (TT.rJ (ro_f4q_5 _)))))
def D_f4q : AQ X_f4q R_f4q:=.ro (.of tt_f4q) (fun y=>(y.1)) (fun y x=>(y,x.2.2)) fun x y h=>congrArg (fun o=>(y.1,o)) (roT_f4q x y h)
def con_f4q : A3 Tryz.prog :=
 C3 110 J_f4q S_f4q (.of tt_f4q) D_f4q (fun y x=>(y,x.2.2)) (fun y=>e_TEv y) 3 1 [.any,Ep,.any] (lk mxk (lbc ok_f4q_5 rfl lbn) sd_f4q) (fun x=>⟨(nu_e_TFa : ∀ y,(e_TFa y).CV) (x.2.2),trivial⟩)
abbrev X_f4t : Type:=(Bx TRr)
abbrev R_f4t : Type:=Int
def J_f4t : A9 Tryz.prog :=
 BF Tryz.prog Tryz.f82 10 [(5,1)] [] [(0,[.open_ 0])] [] [.any] [] [] R_f4t [] fun y=>[(V.int .u64) y]
def S_f4t : AM :=
 Ae Tryz.f82 1 0 X_f4t (fun x=>[ebox_TRr x]) fun l=>(dbox_TRr (at_ l 0))
def tt_f4t (x : X_f4t) : TT Tryz.prog R_f4t :=
 (.need (!x.nil) <|
 (.ret x.x.AA.tail))
theorem sd_f4t (x : X_f4t) : (tt_f4t x).AH :=
 (TT.sN TT.sR)
def D_f4t : AQ X_f4t R_f4t:=.of tt_f4t
def con_f4t : A3 Tryz.prog :=
 BZ 82 J_f4t S_f4t D_f4t 1 0 [hbox_TRr] (lk mxk lbn sd_f4t)
abbrev X_f4n : Type:=(Sl Int) × TAk × D3 × TFa
abbrev R_f4n : Type:=TEv × Bool
abbrev RR_f4n : Type:=TEv × Bool × TFa
abbrev p_f4n (y : RR_f4n) : TFa:=y.2.2
abbrev w_f4n (x : X_f4n) : TFa:=x.2.2.2
def J_f4n : A9 Tryz.prog :=
 BF Tryz.prog Tryz.f65 98 [(6,3),(7,3),(79,1)] [] [] [] [.any,.any] [sh_TFa] [con_fe,con_f1f,con_fi,con_f4t,con_f4q,con_f4p] RR_f4n [] fun y=>[V.CC (V.cons (e_TEv y.1) (V.cons (V.bool y.2.1) (V.unit))),e_TFa y.2.2]
def S_f4n : AM :=
 Ae Tryz.f65 4 1 X_f4n (fun x=>[(V.ptr (.par 0) []),EU x.1,e_TAk x.2.1,VN x.2.2.1,e_TFa x.2.2.2]) fun l=>(FO (at_ l 1),d_TAk (at_ l 2),VS (at_ l 3),d_TFa (at_ l 4))
structure X_f4n_26 where
 Ah : TFa
 I0 : TEv
 I1 : TEv
def S_f4n_26 : AM :=
 Ad Tryz.f65 26 (an [0,8,10]) [sh_TFa] [(.loc 8 0,.any),(.loc 10 0,.any)] X_f4n_26 (fun x=>[(V.ptr (.par 0) []),(V.ptr (.loc 8 0) []),(V.ptr (.loc 10 0) []),e_TFa x.Ah,e_TEv x.I0,e_TEv x.I1]) fun l=>⟨d_TFa (at_ l 3),d_TEv (at_ l 4),d_TEv (at_ l 5)⟩
abbrev w_f4n_26 (x : X_f4n_26) : TFa:=(x.Ah)
def tt_f4n_26 (x : X_f4n_26) : TT Tryz.prog RR_f4n :=
 (.call con_fe (x.I1,x.Ah) fun (y1 : R_fe) =>
 (.ret (x.I1,(y1,x.Ah))))
theorem sd_f4n_26 (x : X_f4n_26) : (tt_f4n_26 x).AH :=
 (TT.sC fun _=>TT.sR)
theorem roT_f4n_26 (x : X_f4n_26) : TT.Ro p_f4n (w_f4n_26 x) (tt_f4n_26 x) :=
 (TT.rC fun _=>(TT.rR rfl))
def D_f4n_26 : AQ X_f4n_26 RR_f4n:=.of tt_f4n_26
theorem ok_f4n_26 : AV J_f4n S_f4n_26 D_f4n_26 :=
 lk mxk lbn sd_f4n_26
theorem ro_f4n_26 : ∀ x y,D_f4n_26.rel x y → p_f4n y = w_f4n_26 x :=
 roT_f4n_26 
def tt_f4n (x : X_f4n) : TT Tryz.prog RR_f4n :=
 (.ite (AX x.snd.fst.Kind 0)
 (.ret ((TEv.mk x.snd.snd.fst.VF 0 0 0 0),(false,x.snd.snd.snd)))
 (.ite (AX x.snd.fst.Kind 1)
 (.call con_f4p (x.snd.fst,((TEv.mk x.snd.snd.fst.VF 0 0 0 0),(x.snd.snd.fst.Vu,x.snd.snd.snd))) fun (y1 : R_f4p) =>
 (.ret (y1.fst,(y1.snd,x.snd.snd.snd))))
 (.ite (AX x.snd.fst.Kind 2)
 (.call con_f4p (x.snd.fst,((TEv.mk x.snd.snd.fst.VF 0 0 0 0),(x.snd.snd.fst.Vu,x.snd.snd.snd))) fun (y1 : R_f4p) =>
 (.ret (y1.fst,(y1.snd,x.snd.snd.snd))))
 (.ite (AX x.snd.fst.Kind 10)
 (.jump S_f4n_26 D_f4n_26 (X_f4n_26.mk x.snd.snd.snd (TEv.mk 0 0 0 0 0) (TEv.mk x.snd.snd.fst.VF 2 x.snd.fst.Ring x.snd.fst.AG 0)))
 (.ite (AX x.snd.fst.Kind 11)
 (.jump S_f4n_26 D_f4n_26 (X_f4n_26.mk x.snd.snd.snd (TEv.mk 0 0 0 0 0) (TEv.mk x.snd.snd.fst.VF 4 x.snd.fst.Ring x.snd.fst.AG 0)))
 (.ite (AX x.snd.fst.Kind 3)
 (.call con_fi (x.snd.fst.Ring,x.snd.snd.snd) fun (y1 : R_fi) =>
 (.call con_f4t y1 fun (y2 : R_f4t) =>
 (.jump S_f4n_26 D_f4n_26 (X_f4n_26.mk x.snd.snd.snd (TEv.mk 0 0 0 0 0) (TEv.mk x.snd.snd.fst.VF 13 x.snd.fst.Ring y2 0)))))
 (.ite (AX x.snd.fst.Kind 4)
 (.call con_f1f x.snd.snd.snd fun (y1 : R_f1f) =>
 (.jump S_f4n_26 D_f4n_26 (X_f4n_26.mk x.snd.snd.snd (TEv.mk 0 0 0 0 0) (TEv.mk x.snd.snd.fst.VF 8 0 0 (IntKind.u64.wrap (y1 + (Int.tmod x.snd.snd.fst.Va 1048576)))))))
 (.ite (AX x.snd.fst.Kind 5)
 (.jump S_f4n_26 D_f4n_26 (X_f4n_26.mk x.snd.snd.snd (TEv.mk 0 0 0 0 0) (TEv.mk x.snd.snd.fst.VF 9 0 0 x.snd.snd.fst.Vi)))
 (.ite (AX x.snd.fst.Kind 6)
 (.call con_f4q (x.fst,((TEv.mk x.snd.snd.fst.VF 0 0 0 0),x.snd.snd.snd)) fun (y1 : R_f4q) =>
 (.jump S_f4n_26 D_f4n_26 (X_f4n_26.mk x.snd.snd.snd (TEv.mk 0 0 0 0 0) y1)))
 (.ite (AX x.snd.fst.Kind 7)
 (.jump S_f4n_26 D_f4n_26 (X_f4n_26.mk x.snd.snd.snd (TEv.mk 0 0 0 0 0) (TEv.mk x.snd.snd.fst.VF 12 0 0 x.snd.fst.Value)))
 (.ite (AX x.snd.fst.Kind 8)
 (.jump S_f4n_26 D_f4n_26 (X_f4n_26.mk x.snd.snd.snd (TEv.mk 0 0 0 0 0) (TEv.mk x.snd.snd.fst.VF 14 0 0 0)))
 (.ite (AX x.snd.fst.Kind 9)
 (.jump S_f4n_26 D_f4n_26 (X_f4n_26.mk x.snd.snd.snd (TEv.mk 0 0 0 0 0) (TEv.mk x.snd.snd.fst.VF 15 0 0 0)))
 (.jump S_f4n_26 D_f4n_26 (X_f4n_26.mk x.snd.snd.snd (TEv.mk 0 0 0 0 0) (TEv.mk x.snd.snd.fst.VF 0 0 0 0)))))))))))))))
theorem sd_f4n (x : X_f4n) : (tt_f4n x).AH :=
 (TT.sI TT.sR (TT.sI (TT.sC fun _=>TT.sR) (TT.sI (TT.sC fun _=>TT.sR) (TT.sI TT.sJ (TT.sI TT.sJ (TT.sI (TT.sC fun _=>(TT.sC fun _=>TT.sJ)) (TT.sI (TT.sC fun _=>TT.sJ) (TT.sI TT.sJ (TT.sI (TT.sC fun _=>TT.sJ) (TT.sI TT.sJ (TT.sI TT.sJ (TT.sI TT.sJ TT.sJ))))))))))))
theorem roT_f4n (x : X_f4n) : TT.Ro p_f4n (w_f4n x) (tt_f4n x) :=
 (TT.rI (TT.rR rfl) (TT.rI (TT.rC fun _=>(TT.rR rfl)) (TT.rI (TT.rC fun _=>(TT.rR rfl)) (TT.rI (TT.rJ (ro_f4n_26 _)) (TT.rI (TT.rJ (ro_f4n_26 _)) (TT.rI (TT.rC fun _=>(TT.rC fun _=>(TT.rJ (ro_f4n_26 _)))) (TT.rI (TT.rC fun _=>(TT.rJ (ro_f4n_26 _))) (TT.rI (TT.rJ (ro_f4n_26 _)) (TT.rI (TT.rC fun _=>(TT.rJ (ro_f4n_26 _))) (TT.rI (TT.rJ (ro_f4n_26 _)) (TT.rI (TT.rJ (ro_f4n_26 _)) (TT.rI (TT.rJ (ro_f4n_26 _)) (TT.rJ (ro_f4n_26 _))))))))))))))
def D_f4n : AQ X_f4n R_f4n:=.ro (.of tt_f4n) (fun y=>(y.1,y.2.1)) (fun y x=>(y.1,y.2,x.2.2.2)) fun x y h=>congrArg (fun o=>(y.1,y.2.1,o)) (roT_f4n x y h)
def con_f4n : A3 Tryz.prog :=
 C3 65 J_f4n S_f4n (.of tt_f4n) D_f4n (fun y x=>(y.1,y.2,x.2.2.2)) (fun y=>V.CC (V.cons (e_TEv y.1) (V.cons (V.bool y.2) (V.unit)))) 4 1 [.any,Ep,.any,.any] (lk mxk (lbc ok_f4n_26 rfl lbn) sd_f4n) (fun x=>⟨(nu_e_TFa : ∀ y,(e_TFa y).CV) (x.2.2.2),trivial⟩)
abbrev X_f4u : Type:=(Sl Int) × D3 × TFa
abbrev R_f4u : Type:=TEv × Bool
abbrev RR_f4u : Type:=TEv × Bool × TFa
abbrev p_f4u (y : RR_f4u) : TFa:=y.2.2
abbrev w_f4u (x : X_f4u) : TFa:=x.2.2
def J_f4u : A9 Tryz.prog :=
 BF Tryz.prog Tryz.f30 34 [(5,3),(12,1),(22,1),(24,1)] [] [] [] [.any,.any] [sh_TFa] [con_f1n,con_f4n] RR_f4u [] fun y=>[V.CC (V.cons (e_TEv y.1) (V.cons (V.bool y.2.1) (V.unit))),e_TFa y.2.2]
def S_f4u : AM :=
 Ae Tryz.f30 3 1 X_f4u (fun x=>[(V.ptr (.par 0) []),EU x.1,VN x.2.1,e_TFa x.2.2]) fun l=>(FO (at_ l 1),VS (at_ l 2),d_TFa (at_ l 3))
def tt_f4u (x : X_f4u) : TT Tryz.prog RR_f4u :=
 (.call con_f1n (x.snd.fst.VF,x.snd.snd) fun (y1 : R_f1n) =>
 (.ite (!(AX y1.snd 0))
 (.ret ((TEv.mk 0 0 0 0 0),(false,x.snd.snd)))
 (.call con_f4n (x.fst,(y1.fst,(x.snd.fst,x.snd.snd))) fun (y2 : R_f4n) =>
 (.ite (!y2.snd)
 (.ret ((TEv.mk 0 0 0 0 0),(false,x.snd.snd)))
 (.ret (y2.fst,(true,x.snd.snd)))))))
theorem sd_f4u (x : X_f4u) : (tt_f4u x).AH :=
 (TT.sC fun _=>(TT.sI TT.sR (TT.sC fun _=>(TT.sI TT.sR TT.sR))))
theorem roT_f4u (x : X_f4u) : TT.Ro p_f4u (w_f4u x) (tt_f4u x) :=
 (TT.rC fun _=>(TT.rI (TT.rR rfl) (TT.rC fun _=>(TT.rI (TT.rR rfl) (TT.rR rfl)))))
def D_f4u : AQ X_f4u R_f4u:=.ro (.of tt_f4u) (fun y=>(y.1,y.2.1)) (fun y x=>(y.1,y.2,x.2.2)) fun x y h=>congrArg (fun o=>(y.1,y.2.1,o)) (roT_f4u x y h)
def con_f4u : A3 Tryz.prog :=
 C3 30 J_f4u S_f4u (.of tt_f4u) D_f4u (fun y x=>(y.1,y.2,x.2.2)) (fun y=>V.CC (V.cons (e_TEv y.1) (V.cons (V.bool y.2) (V.unit)))) 3 1 [.any,Ep,.any] (lk mxk lbn sd_f4u) (fun x=>⟨(nu_e_TFa : ∀ y,(e_TFa y).CV) (x.2.2),trivial⟩)
abbrev X_f4w : Type:=(Sl Int) × D3 × TFa
abbrev R_f4w : Type:=TEv × Bool × TFa
def J_f4w : A9 Tryz.prog :=
 BF Tryz.prog Tryz.f68 23 [(5,3),(10,1),(12,1)] [] [] [] [.any,.any] [sh_TFa] [con_f2k,con_f4u] R_f4w [] fun y=>[V.CC (V.cons (e_TEv y.1) (V.cons (V.bool y.2.1) (V.unit))),e_TFa y.2.2]
def S_f4w : AM :=
 Ae Tryz.f68 3 1 X_f4w (fun x=>[(V.ptr (.par 0) []),EU x.1,VN x.2.1,e_TFa x.2.2]) fun l=>(FO (at_ l 1),VS (at_ l 2),d_TFa (at_ l 3))
def tt_f4w (x : X_f4w) : TT Tryz.prog R_f4w :=
 (.call con_f4u (x.fst,(x.snd.fst,x.snd.snd)) fun (y1 : R_f4u) =>
 (.ite y1.snd
 (.call con_f2k (y1.fst,x.snd.snd) fun (y2 : R_f2k) =>
 (.ret (y1.fst,(y1.snd,y2.snd))))
 (.ret (y1.fst,(y1.snd,x.snd.snd)))))
theorem sd_f4w (x : X_f4w) : (tt_f4w x).AH :=
 (TT.sC fun _=>(TT.sI (TT.sC fun _=>TT.sR) TT.sR))
def D_f4w : AQ X_f4w R_f4w:=.of tt_f4w
def con_f4w : A3 Tryz.prog :=
 BZ 68 J_f4w S_f4w D_f4w 3 1 [.any,Ep,.any] (lk mxk lbn sd_f4w)
abbrev X_f1j : Type:=Int × TFa
abbrev R_f1j : Type:=Bool
abbrev RR_f1j : Type:=Bool × TFa
abbrev p_f1j (y : RR_f1j) : TFa:=y.2
abbrev w_f1j (x : X_f1j) : TFa:=x.2
def J_f1j : A9 Tryz.prog :=
 BF Tryz.prog Tryz.f28 19 [] [] [] [.back (.loc 12 0)] [.any] [sh_TFa] [con_f18] RR_f1j [] fun y=>[V.bool y.1,e_TFa y.2]
def S_f1j : AM :=
 Ae Tryz.f28 2 1 X_f1j (fun x=>[(V.ptr (.par 0) []),(V.int .i64) x.1,e_TFa x.2]) fun l=>(dI (at_ l 1),d_TFa (at_ l 2))
def tt_f1j (x : X_f1j) : TT Tryz.prog RR_f1j :=
 (.call con_f18 (x.fst,x.snd) fun (y1 : R_f18) =>
 (.ite y1
 (.need (A0 x.fst x.snd.threads.n) <|
 (.need ((Nat.beq x.snd.threads.n x.snd.threads.n) && true) <|
 (.need ((true && true) && (Nat.beq x.snd.threads.n x.snd.threads.n)) <|
 (.ret ((AX (x.snd.threads.get ((0 : Nat) + (Int.toNat x.fst))).Status 0),x.snd)))))
 (.ret (false,x.snd))))
theorem sd_f1j (x : X_f1j) : (tt_f1j x).AH :=
 (TT.sC fun _=>(TT.sI (TT.sN (TT.sN (TT.sN TT.sR))) TT.sR))
theorem roT_f1j (x : X_f1j) : TT.Ro p_f1j (w_f1j x) (tt_f1j x) :=
 (TT.rC fun _=>(TT.rI (TT.rN (TT.rN (TT.rN (TT.rR rfl)))) (TT.rR rfl)))
def D_f1j : AQ X_f1j R_f1j:=.ro (.of tt_f1j) (fun y=>(y.1)) (fun y x=>(y,x.2)) fun x y h=>congrArg (fun o=>(y.1,o)) (roT_f1j x y h)
def con_f1j : A3 Tryz.prog :=
 C3 28 J_f1j S_f1j (.of tt_f1j) D_f1j (fun y x=>(y,x.2)) (fun y=>V.bool y) 2 1 [.any,.any] (lk mxk lbn sd_f1j) (fun x=>⟨(nu_e_TFa : ∀ y,(e_TFa y).CV) (x.2),trivial⟩)
structure Bh where
 R3 : (Sl TEv)
 State : TSt
 Idle : Int
 VL : Int
def SV (v : V) : Bh :=
 ⟨dsl_TEv (fd v 0),d_TSt (fd v 1),dI (fd v 2),dI (fd v 3)⟩
def VG (x : Bh) : V :=
 V.cons (esl_TEv x.R3) (V.cons (e_TSt x.State) (V.cons ((V.int .i64) x.Idle) (V.cons ((V.int .i64) x.VL) (V.unit))))
theorem WG (x : Bh) : (VG x).CV:=⟨trivial,(nu_e_TSt : ∀ y,(e_TSt y).CV) x.State,trivial,trivial,trivial⟩
def VI : Sh:=(.cons hsl_TEv (.cons sh_TSt .any))
abbrev DslA_TEv : Type:=(Sl TEv)
def eslA_TEv : DslA_TEv → V:=(LA (some 56) 5 e_TEv)
def dslA_TEv : V → DslA_TEv:=(LX d_TEv)
def hslA_TEv : Sh:=(.sl (some 56) 5 (e_TEv (d_TEv .undef)))
def VQ (x : Bh) : V :=
 V.cons (eslA_TEv x.R3) (V.cons (e_TSt x.State) (V.cons ((V.int .i64) x.Idle) (V.cons ((V.int .i64) x.VL) (V.unit))))
theorem V7 (x : Bh) : (VQ x).CV:=⟨trivial,(nu_e_TSt : ∀ y,(e_TSt y).CV) x.State,trivial,trivial,trivial⟩
def VV : Sh:=(.cons hslA_TEv (.cons sh_TSt .any))
abbrev X_f4m : Type:=TPg × (Sl Int) × (Sl D3)
abbrev R_f4m : Type:=Bh × Int
def J_f4m : A9 Tryz.prog :=
 BF Tryz.prog Tryz.f32 73 [(3,3),(15,1),(34,1),(40,1),(54,1),(69,1)] [(7,[.open_ 8])] [] [] [VI,.any] [] [con_f1j,con_f4l,con_f1h,con_f4w] R_f4m [] fun y=>[V.CC (V.cons (VG y.1) (V.cons ((V.int .i64) y.2) (V.unit)))]
def S_f4m : AM :=
 Ae Tryz.f32 3 0 X_f4m (fun x=>[e_TPg x.1,EU x.2.1,SC x.2.2]) fun l=>(d_TPg (at_ l 0),FO (at_ l 1),VK (at_ l 2))
structure X_f4m_6 where
 VM : (Sl Int)
 Vc : (Sl D3)
 f_8 : (Bx TFa)
 HX : Bh
def S_f4m_6 : AM :=
 Ad Tryz.f32 6 [(1,Ep),(2,VJ),(6,.any),(8,hbox_TFa)] [] [(.loc 6 0,VI)] X_f4m_6 (fun x=>[EU x.VM,SC x.Vc,(V.ptr (.loc 6 0) []),ebox_TFa x.f_8,VG x.HX]) fun l=>⟨FO (at_ l 0),VK (at_ l 1),dbox_TFa (at_ l 3),SV (at_ l 4)⟩
structure X_f4m_8 where
 VM : (Sl Int)
 Vr : (Sl D3)
 V2 : Int
 Vg : Int
 HX : Bh
 I1 : Bh
 WH : TFa
def S_f4m_8 : AM :=
 Ad Tryz.f32 8 [(1,Ep),(6,.any),(8,.any),(10,.any),(34,VJ),(35,.any),(36,.any)] [] [(.loc 6 0,VI),(.loc 10 0,VV),(.loc 8 1,sh_TFa)] X_f4m_8 (fun x=>[EU x.VM,(V.ptr (.loc 6 0) []),(V.ptr (.loc 8 1) []),(V.ptr (.loc 10 0) []),SC x.Vr,(V.int .i64) x.V2,(V.int .i64) x.Vg,VG x.HX,VQ x.I1,e_TFa x.WH]) fun l=>⟨FO (at_ l 0),VK (at_ l 4),dI (at_ l 5),dI (at_ l 6),SV (at_ l 7),SV (at_ l 8),d_TFa (at_ l 9)⟩
structure X_f4m_16 where
 VM : (Sl Int)
 Vr : (Sl D3)
 V2 : Int
 Vg : Int
 HX : Bh
 I1 : Bh
 WH : TFa
def S_f4m_16 : AM :=
 Ad Tryz.f32 16 [(1,Ep),(6,.any),(8,.any),(10,.any),(34,VJ),(35,.any),(36,.any)] [] [(.loc 6 0,VI),(.loc 10 0,VV),(.loc 8 1,sh_TFa)] X_f4m_16 (fun x=>[EU x.VM,(V.ptr (.loc 6 0) []),(V.ptr (.loc 8 1) []),(V.ptr (.loc 10 0) []),SC x.Vr,(V.int .i64) x.V2,(V.int .i64) x.Vg,VG x.HX,VQ x.I1,e_TFa x.WH]) fun l=>⟨FO (at_ l 0),VK (at_ l 4),dI (at_ l 5),dI (at_ l 6),SV (at_ l 7),SV (at_ l 8),d_TFa (at_ l 9)⟩
structure X_f4m_17 where
 HX : Bh
 I1 : Bh
 WH : TFa
def S_f4m_17 : AM :=
 Ad Tryz.f32 17 (an [6,8,10]) [] [(.loc 6 0,VI),(.loc 10 0,VV),(.loc 8 1,sh_TFa)] X_f4m_17 (fun x=>[(V.ptr (.loc 6 0) []),(V.ptr (.loc 8 1) []),(V.ptr (.loc 10 0) []),VG x.HX,VQ x.I1,e_TFa x.WH]) fun l=>⟨SV (at_ l 3),SV (at_ l 4),d_TFa (at_ l 5)⟩
def tt_f4m_17 (x : X_f4m_17) : TT Tryz.prog R_f4m :=
 (.call con_f4l x.WH fun (y1 : R_f4l) =>
 (.ret ((Bh.mk x.I1.R3 y1 x.I1.Idle x.I1.VL),0)))
theorem sd_f4m_17 (x : X_f4m_17) : (tt_f4m_17 x).AH :=
 (TT.sC fun _=>TT.sR)
def D_f4m_17 : AQ X_f4m_17 R_f4m:=.of tt_f4m_17
theorem ok_f4m_17 : AV J_f4m S_f4m_17 D_f4m_17 :=
 lk mxk lbn sd_f4m_17
def tt_f4m_16 (D_f4m_8 : AQ X_f4m_8 R_f4m) (x : X_f4m_16) : TT Tryz.prog R_f4m :=
 (.jump S_f4m_8 D_f4m_8 (X_f4m_8.mk x.VM x.Vr x.V2 (IntKind.i64.wrap (x.Vg + 1)) x.HX x.I1 x.WH))
theorem sd_f4m_16 (D_f4m_8 : AQ X_f4m_8 R_f4m) (x : X_f4m_16) : (tt_f4m_16 D_f4m_8 x).AH :=
 TT.sJ
def D_f4m_16 (D_f4m_8 : AQ X_f4m_8 R_f4m) : AQ X_f4m_16 R_f4m:=.of (tt_f4m_16 D_f4m_8)
theorem ok_f4m_16 (D_f4m_8 : AQ X_f4m_8 R_f4m) (h_8 : AV J_f4m S_f4m_8 D_f4m_8) : AV J_f4m S_f4m_16 (D_f4m_16 D_f4m_8) :=
 lk mxk (lbc h_8 rfl (lbc ok_f4m_17 rfl lbn)) (sd_f4m_16 D_f4m_8)
def tt_f4m_8 (D_f4m_8 : AQ X_f4m_8 R_f4m) (x : X_f4m_8) : TT Tryz.prog R_f4m :=
 (.ite (BS x.Vg x.V2)
 (.need (A0 x.Vg x.Vr.n) <|
 (.call con_f4w (x.VM,((x.Vr.get (Int.toNat x.Vg)),x.WH)) fun (y2 : R_f4w) =>
 (.ite y2.snd.fst
 (.need (true && (room (x.I1.R3.n + 1) 40)) <|
 (.jump S_f4m_16 (D_f4m_16 D_f4m_8) (X_f4m_16.mk x.VM x.Vr x.V2 x.Vg x.HX (Bh.mk (Sl.mk (cond (Nat.beq 1 0) x.I1.R3.nil false) (x.I1.R3.n + 1) (fun i3=>(TEv.mk (cond (Nat.blt i3 x.I1.R3.n) (x.I1.R3.get i3).Thread y2.fst.Thread) (cond (Nat.blt i3 x.I1.R3.n) (x.I1.R3.get i3).Kind y2.fst.Kind) (cond (Nat.blt i3 x.I1.R3.n) (x.I1.R3.get i3).Ring y2.fst.Ring) (cond (Nat.blt i3 x.I1.R3.n) (x.I1.R3.get i3).AG y2.fst.AG) (cond (Nat.blt i3 x.I1.R3.n) (x.I1.R3.get i3).Value y2.fst.Value)))) x.I1.State x.I1.Idle x.I1.VL) y2.snd.snd)))
 (.call con_f1j ((x.Vr.get (Int.toNat x.Vg)).VF,y2.snd.snd) fun (y3 : R_f1j) =>
 (.ite y3
 (.jump S_f4m_16 (D_f4m_16 D_f4m_8) (X_f4m_16.mk x.VM x.Vr x.V2 x.Vg x.HX (Bh.mk x.I1.R3 x.I1.State x.I1.Idle (IntKind.i64.wrap (x.I1.VL + 1))) y2.snd.snd))
 (.jump S_f4m_16 (D_f4m_16 D_f4m_8) (X_f4m_16.mk x.VM x.Vr x.V2 x.Vg x.HX (Bh.mk x.I1.R3 x.I1.State (IntKind.i64.wrap (x.I1.Idle + 1)) x.I1.VL) y2.snd.snd)))))))
 (.jump S_f4m_17 D_f4m_17 (X_f4m_17.mk x.HX x.I1 x.WH)))
theorem sd_f4m_8 (D_f4m_8 : AQ X_f4m_8 R_f4m) (x : X_f4m_8) : (tt_f4m_8 D_f4m_8 x).AH :=
 (TT.sI (TT.sN (TT.sC fun _=>(TT.sI (TT.sN TT.sJ) (TT.sC fun _=>(TT.sI TT.sJ TT.sJ))))) TT.sJ)
def D_f4m_8 : AQ X_f4m_8 R_f4m:=AQ.loop tt_f4m_8
theorem ok_f4m_8 : AV J_f4m S_f4m_8 D_f4m_8 :=
 Az fun D_f4m_8 h_8=>lk mxk (lbc h_8 rfl (lbc ok_f4m_17 rfl (lbc (ok_f4m_16 D_f4m_8 h_8) rfl lbn))) (sd_f4m_8 D_f4m_8)
def tt_f4m_6 (x : X_f4m_6) : TT Tryz.prog R_f4m :=
 (.need (!x.f_8.nil) <|
 (.jump S_f4m_8 D_f4m_8 (X_f4m_8.mk x.VM x.Vc ((x.Vc.n : Nat) : Int) 0 x.HX (Bh.mk (Sl.mk true 0 (fun i1=>(TEv.mk 0 0 0 0 0))) (TSt.mk (Sl.mk true 0 (fun i1=>(TTh.mk 0 0 0 0 0 (fun i2=>(0 : Int)) (Sl.mk true 0 (fun i2=>(0 : Int)))))) (Sl.mk true 0 (fun i1=>(TRs.mk 0 (Sl.mk true 0 (fun i2=>(0 : Int))) false (Sl.mk true 0 (fun i2=>(TSo.mk 0 0 0)))))) 0 0 false) 0 0) x.f_8.x)))
theorem sd_f4m_6 (x : X_f4m_6) : (tt_f4m_6 x).AH :=
 (TT.sN TT.sJ)
def D_f4m_6 : AQ X_f4m_6 R_f4m:=.of tt_f4m_6
theorem ok_f4m_6 : AV J_f4m S_f4m_6 D_f4m_6 :=
 lk mxk (lbc ok_f4m_17 rfl (lbc ok_f4m_8 rfl lbn)) sd_f4m_6
def tt_f4m (x : X_f4m) : TT Tryz.prog R_f4m :=
 (.call con_f1h x.fst fun (y1 : R_f1h) =>
 (.ite (!(AX y1.snd 0))
 (.ret ((Bh.mk (Sl.mk true 0 (fun i2=>(TEv.mk 0 0 0 0 0))) (TSt.mk (Sl.mk true 0 (fun i2=>(TTh.mk 0 0 0 0 0 (fun i3=>(0 : Int)) (Sl.mk true 0 (fun i3=>(0 : Int)))))) (Sl.mk true 0 (fun i2=>(TRs.mk 0 (Sl.mk true 0 (fun i3=>(0 : Int))) false (Sl.mk true 0 (fun i3=>(TSo.mk 0 0 0)))))) 0 0 false) 0 0),1))
 (.ite (BS 65536 ((x.snd.snd.n : Nat) : Int))
 (.ret ((Bh.mk (Sl.mk true 0 (fun i2=>(TEv.mk 0 0 0 0 0))) (TSt.mk (Sl.mk true 0 (fun i2=>(TTh.mk 0 0 0 0 0 (fun i3=>(0 : Int)) (Sl.mk true 0 (fun i3=>(0 : Int)))))) (Sl.mk true 0 (fun i2=>(TRs.mk 0 (Sl.mk true 0 (fun i3=>(0 : Int))) false (Sl.mk true 0 (fun i3=>(TSo.mk 0 0 0)))))) 0 0 false) 0 0),4))
 (.ite (BS 65536 ((x.snd.fst.n : Nat) : Int))
 (.ret ((Bh.mk (Sl.mk true 0 (fun i2=>(TEv.mk 0 0 0 0 0))) (TSt.mk (Sl.mk true 0 (fun i2=>(TTh.mk 0 0 0 0 0 (fun i3=>(0 : Int)) (Sl.mk true 0 (fun i3=>(0 : Int)))))) (Sl.mk true 0 (fun i2=>(TRs.mk 0 (Sl.mk true 0 (fun i3=>(0 : Int))) false (Sl.mk true 0 (fun i3=>(TSo.mk 0 0 0)))))) 0 0 false) 0 0),4))
 (.jump S_f4m_6 D_f4m_6 (X_f4m_6.mk x.snd.fst x.snd.snd (Bx.mk y1.fst.nil y1.fst.x) (Bh.mk (Sl.mk true 0 (fun i2=>(TEv.mk 0 0 0 0 0))) (TSt.mk (Sl.mk true 0 (fun i2=>(TTh.mk 0 0 0 0 0 (fun i3=>(0 : Int)) (Sl.mk true 0 (fun i3=>(0 : Int)))))) (Sl.mk true 0 (fun i2=>(TRs.mk 0 (Sl.mk true 0 (fun i3=>(0 : Int))) false (Sl.mk true 0 (fun i3=>(TSo.mk 0 0 0)))))) 0 0 false) 0 0)))))))
theorem sd_f4m (x : X_f4m) : (tt_f4m x).AH :=
 (TT.sC fun _=>(TT.sI TT.sR (TT.sI TT.sR (TT.sI TT.sR TT.sJ))))
def D_f4m : AQ X_f4m R_f4m:=.of tt_f4m
def con_f4m : A3 Tryz.prog :=
 BZ 32 J_f4m S_f4m D_f4m 3 0 [sh_TPg,Ep,VJ] (lk mxk (lbc ok_f4m_17 rfl (lbc ok_f4m_8 rfl (lbc ok_f4m_6 rfl lbn))) sd_f4m)
abbrev X_f4z : Type:=(Sl TEv) × (Sl TEv)
abbrev R_f4z : Type:=Bool
def J_f4z : A9 Tryz.prog :=
 BF Tryz.prog Tryz.f34 26 [] [] [] [] [.any] [] [] R_f4z [] fun y=>[V.bool y]
def S_f4z : AM :=
 Ae Tryz.f34 2 0 X_f4z (fun x=>[esl_TEv x.1,esl_TEv x.2]) fun l=>(dsl_TEv (at_ l 0),dsl_TEv (at_ l 1))
structure X_f4z_4 where
 XL : (Sl TEv)
 XS : (Sl TEv)
 Ob : Int
def S_f4z_4 : AM :=
 Ad Tryz.f34 4 [(0,hsl_TEv),(1,hsl_TEv),(5,.any)] [] [] X_f4z_4 (fun x=>[esl_TEv x.XL,esl_TEv x.XS,(V.int .i64) x.Ob]) fun l=>⟨dsl_TEv (at_ l 0),dsl_TEv (at_ l 1),dI (at_ l 2)⟩
def tt_f4z_4 (D_f4z_4 : AQ X_f4z_4 R_f4z) (x : X_f4z_4) : TT Tryz.prog R_f4z :=
 (.ite (BS x.Ob ((x.XL.n : Nat) : Int))
 (.need (A0 x.Ob x.XL.n) <|
 (.need (A0 x.Ob x.XS.n) <|
 (.ite (!((AX (x.XL.get (Int.toNat x.Ob)).Thread (x.XS.get (Int.toNat x.Ob)).Thread) && ((AX (x.XL.get (Int.toNat x.Ob)).Kind (x.XS.get (Int.toNat x.Ob)).Kind) && ((AX (x.XL.get (Int.toNat x.Ob)).Ring (x.XS.get (Int.toNat x.Ob)).Ring) && ((AX (x.XL.get (Int.toNat x.Ob)).AG (x.XS.get (Int.toNat x.Ob)).AG) && ((AX (x.XL.get (Int.toNat x.Ob)).Value (x.XS.get (Int.toNat x.Ob)).Value) && true))))))
 (.ret false)
 (.jump S_f4z_4 D_f4z_4 (X_f4z_4.mk x.XL x.XS (IntKind.i64.wrap (x.Ob + 1)))))))
 (.ret true))
theorem sd_f4z_4 (D_f4z_4 : AQ X_f4z_4 R_f4z) (x : X_f4z_4) : (tt_f4z_4 D_f4z_4 x).AH :=
 (TT.sI (TT.sN (TT.sN (TT.sI TT.sR TT.sJ))) TT.sR)
def D_f4z_4 : AQ X_f4z_4 R_f4z:=AQ.loop tt_f4z_4
theorem ok_f4z_4 : AV J_f4z S_f4z_4 D_f4z_4 :=
 Az fun D_f4z_4 h_4=>lk mxk (lbc h_4 rfl lbn) (sd_f4z_4 D_f4z_4)
def tt_f4z (x : X_f4z) : TT Tryz.prog R_f4z :=
 (.ite (!(AX ((x.fst.n : Nat) : Int) ((x.snd.n : Nat) : Int)))
 (.ret false)
 (.jump S_f4z_4 D_f4z_4 (X_f4z_4.mk x.fst x.snd 0)))
theorem sd_f4z (x : X_f4z) : (tt_f4z x).AH :=
 (TT.sI TT.sR TT.sJ)
def D_f4z : AQ X_f4z R_f4z:=.of tt_f4z
def con_f4z : A3 Tryz.prog :=
 BZ 34 J_f4z S_f4z D_f4z 2 0 [hsl_TEv,hsl_TEv] (lk mxk (lbc ok_f4z_4 rfl lbn) sd_f4z)
abbrev X_f4y : Type:=TPg × (Sl TEv)
abbrev R_f4y : Type:=Bool
def J_f4y : A9 Tryz.prog :=
 BF Tryz.prog Tryz.f10 90 [(2,3),(25,1),(43,1),(52,1),(54,1),(55,1),(78,1),(80,1)] [] [] [] [.any] [] [con_f3q,con_f4z,con_f3f,con_f4g,con_f4x,con_f4m] R_f4y [] fun y=>[V.bool y]
def S_f4y : AM :=
 Ae Tryz.f10 2 0 X_f4y (fun x=>[e_TPg x.1,esl_TEv x.2]) fun l=>(d_TPg (at_ l 0),dsl_TEv (at_ l 1))
structure X_f4y_3 where
 DS : (Sl TEv)
 KS : TPg
def S_f4y_3 : AM :=
 Ad Tryz.f10 3 [(1,hsl_TEv),(2,.any)] [] [] X_f4y_3 (fun x=>[esl_TEv x.DS,(CR e_TPg) x.KS]) fun l=>⟨dsl_TEv (at_ l 0),(CS d_TPg) (at_ l 1)⟩
structure X_f4y_6 where
 DS : (Sl TEv)
 KS : TPg
 XH : Int
def S_f4y_6 : AM :=
 Ad Tryz.f10 6 [(1,hsl_TEv),(2,.any),(5,.any)] [] [] X_f4y_6 (fun x=>[esl_TEv x.DS,(CR e_TPg) x.KS,(V.int .i64) x.XH]) fun l=>⟨dsl_TEv (at_ l 0),(CS d_TPg) (at_ l 1),dI (at_ l 2)⟩
structure X_f4y_10 where
 DS : (Sl TEv)
 KS : TPg
 XH : Int
def S_f4y_10 : AM :=
 Ad Tryz.f10 10 [(1,hsl_TEv),(2,.any),(5,.any)] [] [] X_f4y_10 (fun x=>[esl_TEv x.DS,(CR e_TPg) x.KS,(V.int .i64) x.XH]) fun l=>⟨dsl_TEv (at_ l 0),(CS d_TPg) (at_ l 1),dI (at_ l 2)⟩
def tt_f4y_10 (x : X_f4y_10) : TT Tryz.prog R_f4y :=
 (.ite (AX x.XH ((x.DS.n : Nat) : Int))
 (.ret true)
 (.need (upto (IntKind.i64.wrap (x.XH + 1)) x.DS.n) <|
 (.call con_f4x (x.KS,(Sl.mk x.DS.nil ((Int.toNat (IntKind.i64.wrap (x.XH + 1))) - 0) (fun i1=>(x.DS.get ((0 : Nat) + i1))))) fun (y1 : R_f4x) =>
 (.ret (AX y1.snd.snd 11)))))
theorem sd_f4y_10 (x : X_f4y_10) : (tt_f4y_10 x).AH :=
 (TT.sI TT.sR (TT.sN (TT.sC fun _=>TT.sR)))
def D_f4y_10 : AQ X_f4y_10 R_f4y:=.of tt_f4y_10
theorem ok_f4y_10 : AV J_f4y S_f4y_10 D_f4y_10 :=
 lk mxk lbn sd_f4y_10
def tt_f4y_6 (x : X_f4y_6) : TT Tryz.prog R_f4y :=
 (.need (upto x.XH x.DS.n) <|
 (.call con_f4x (x.KS,(Sl.mk x.DS.nil ((Int.toNat x.XH) - 0) (fun i1=>(x.DS.get ((0 : Nat) + i1))))) fun (y1 : R_f4x) =>
 (.call con_f4m (x.KS,(y1.fst,y1.snd.fst)) fun (y2 : R_f4m) =>
 (.ite (!(AX y1.snd.snd 0))
 (.ret false)
 (.ite (!(AX y2.snd 0))
 (.ret false)
 (.need (upto x.XH x.DS.n) <|
 (.call con_f4z (y2.fst.R3,(Sl.mk x.DS.nil ((Int.toNat x.XH) - 0) (fun i3=>(x.DS.get ((0 : Nat) + i3))))) fun (y3 : R_f4z) =>
 (.ite (!y3)
 (.ret false)
 (.jump S_f4y_10 D_f4y_10 (X_f4y_10.mk x.DS x.KS x.XH))))))))))
theorem sd_f4y_6 (x : X_f4y_6) : (tt_f4y_6 x).AH :=
 (TT.sN (TT.sC fun _=>(TT.sC fun _=>(TT.sI TT.sR (TT.sI TT.sR (TT.sN (TT.sC fun _=>(TT.sI TT.sR TT.sJ))))))))
def D_f4y_6 : AQ X_f4y_6 R_f4y:=.of tt_f4y_6
theorem ok_f4y_6 : AV J_f4y S_f4y_6 D_f4y_6 :=
 lk mxk (lbc ok_f4y_10 rfl lbn) sd_f4y_6
def tt_f4y_3 (x : X_f4y_3) : TT Tryz.prog R_f4y :=
 (.call con_f3q (x.KS,x.DS) fun (y1 : R_f3q) =>
 (.ite (!(AX y1.snd 0))
 (.ret false)
 (.ite (BS y1.fst 0)
 (.ret false)
 (.ite (BS ((x.DS.n : Nat) : Int) y1.fst)
 (.ret false)
 (.jump S_f4y_6 D_f4y_6 (X_f4y_6.mk x.DS x.KS y1.fst))))))
theorem sd_f4y_3 (x : X_f4y_3) : (tt_f4y_3 x).AH :=
 (TT.sC fun _=>(TT.sI TT.sR (TT.sI TT.sR (TT.sI TT.sR TT.sJ))))
def D_f4y_3 : AQ X_f4y_3 R_f4y:=.of tt_f4y_3
theorem ok_f4y_3 : AV J_f4y S_f4y_3 D_f4y_3 :=
 lk mxk (lbc ok_f4y_10 rfl (lbc ok_f4y_6 rfl lbn)) sd_f4y_3
def tt_f4y (x : X_f4y) : TT Tryz.prog R_f4y :=
 (.call con_f3f PUnit.unit fun (y1 : R_f3f) =>
 (.ite (!y1)
 (.call con_f3f PUnit.unit fun (y2 : R_f3f) =>
 (.ret y2))
 (.call con_f4g x.fst fun (y2 : R_f4g) =>
 (.ite (!y2)
 (.call con_f3f PUnit.unit fun (y3 : R_f3f) =>
 (.ret y3))
 (.ite (BS 60 ((x.snd.n : Nat) : Int))
 (.call con_f3f PUnit.unit fun (y3 : R_f3f) =>
 (.ret y3))
 (.jump S_f4y_3 D_f4y_3 (X_f4y_3.mk x.snd x.fst)))))))
theorem sd_f4y (x : X_f4y) : (tt_f4y x).AH :=
 (TT.sC fun _=>(TT.sI (TT.sC fun _=>TT.sR) (TT.sC fun _=>(TT.sI (TT.sC fun _=>TT.sR) (TT.sI (TT.sC fun _=>TT.sR) TT.sJ)))))
def D_f4y : AQ X_f4y R_f4y:=.of tt_f4y
def con_f4y : A3 Tryz.prog :=
 BZ 10 J_f4y S_f4y D_f4y 2 0 [sh_TPg,hsl_TEv] (lk mxk (lbc ok_f4y_10 rfl (lbc ok_f4y_6 rfl (lbc ok_f4y_3 rfl lbn))) sd_f4y)
end Go.Proofs.YtlhifcnjnmeknaaGreatDoor
end
