/- For every program and all events: those ahead of the first one that can not be done are just what some world tells, and with that one no world does; what was handed in reads as it did. No conditions beyond the card's own. -/
import Derived.Test.YtlhifcnjnmeknaaGreatDoorGC
import Derived.Test.YtlhifcnjnmeknaaGreatDoorRows
import Derived.Test.YtlhifcnjnmeknaaGreatDoorCards
import Derived.Test.YtlhifcnjnmeknaaGreatDoorTie
import Derived.Deep.DeepHandedRow
noncomputable section
namespace Go.Proofs.YtlhifcnjnmeknaaGreatDoor
open Go Go.Vm Go.Proofs
set_option maxRecDepth 10000
set_option maxRecDepth 100000
theorem Iz {n : Nat} (h : n ≤ maxLen) : (n : Int) ≤ 9223372036854775807:=by have:=(by decide : maxLen ≤ 9223372036854775807); omega
theorem w_f3g (x : Int) : D_f3g.wp x fun y=>y = true ↔ 1 ≤ x ∧ x ≤ 17:=by
 refine of_wp ?_
 simp only [tt_f3g,TT.wp,leI,ilI,ieI,bnI,ibI,Bool.and_eq_true,Bool.false_eq_true,true_iff,false_iff]
 omega
theorem w_f3i (x : TIn) : D_f3i.wp x fun y=>y = true ↔ 15 ≤ x.Op ∧ x.Op ≤ 17:=by
 refine of_wp ?_
 simp only [tt_f3i,TT.wp,leI,ilI,ieI,bnI,ibI,Bool.and_eq_true,Bool.false_eq_true,true_iff,false_iff]
 omega
def LS (x : Int) : TCl × Bool :=
 if x = 1 then (⟨7,0,0,0,18446744073709551615⟩,true)
 else if x = 2 ∨ x = 23 then (⟨7,7,0,0,0⟩,true)
 else if x = 15 then (⟨0,0,0,0,256⟩,true)
 else if x = 16 ∨ x = 17 then (⟨7,0,0,0,256⟩,true)
 else if x = 18 then (⟨7,7,7,2,0⟩,true)
 else if x = 19 then (⟨7,7,7,2,7⟩,true)
 else if x = 20 then (⟨0,0,7,0,0⟩,true)
 else if x = 21 ∨ x = 22 ∨ x = 24 then (⟨7,0,0,0,0⟩,true)
 else if x = 25 then (⟨0,0,0,0,0⟩,true)
 else (⟨7,7,7,0,0⟩,decide (1 ≤ x ∧ x ≤ 17))
theorem w_f26 (x : Int) : D_f26.wp x fun y=>y = LS x:=by
 have e : ∀ z,D_f26_24.wp (⟨x,z⟩ : X_f26_24) fun y=>y = (⟨7,7,7,0,0⟩,decide (1 ≤ x ∧ x ≤ 17)):=by
  intro z
  refine of_wp ?_
  show (tt_f26_24 ⟨x,z⟩).wp _
  simp only [tt_f26_24]
  refine wC (w_f3g x) fun (y : Bool) hy=>?_
  have : y = decide (1 ≤ x ∧ x ≤ 17):=by rw [Bool.eq_iff_iff,decide_eq_true_eq]; exact hy
  subst this
  rfl
 refine of_wp ?_
 simp only [tt_f26,TT.wp,ieI,Qv,LS]
 refine ⟨fun h=>by simp [h],fun h1=>⟨fun h=>by simp [h],fun h2=>⟨fun h=>by simp [h],fun h3=>⟨fun h=>by simp [h],fun h4=>⟨fun h=>by simp [h],fun h5=>⟨fun h=>by simp [h],fun h6=>⟨fun h=>by simp [h],fun h7 =>
  ⟨fun h=>by simp [h],fun h8=>⟨fun h=>by simp [h],fun h9=>⟨fun h=>by simp [h],fun h10=>⟨fun h=>by simp [h],fun h11=>⟨fun h=>by simp [h],fun h12=>⟨fun h=>by simp [h],fun h13=>?_⟩⟩⟩⟩⟩⟩⟩⟩⟩⟩⟩⟩⟩
 simp only [h1,h2,h3,h4,h5,h6,h7,h8,h9,h10,h11,h12,h13,if_false,or_self]
 exact e _
theorem O6 {i : TIn} (h0 : 0 ≤ i.K) (h1 : i.K < 18446744073709551616) :
 (LS i.Op).2 = true ∧ (0 ≤ i.A ∧ i.A ≤ (LS i.Op).1.a) ∧ (0 ≤ i.B ∧ i.B ≤ (LS i.Op).1.b) ∧ (0 ≤ i.C ∧ i.C ≤ (LS i.Op).1.c) ∧ (0 ≤ i.D ∧ i.D ≤ (LS i.Op).1.d) ∧ i.K ≤ (LS i.Op).1.k ↔ Bg i = true:=by
 unfold LS Bg
 simp only
 by_cases e1 : i.Op = 1
 · simp [e1]; omega
 by_cases e2 : i.Op = 2 ∨ i.Op = 23
 · simp only [e1,e2,if_false,if_true,Bool.and_eq_true,decide_eq_true_eq,true_and]; omega
 by_cases e3 : i.Op = 15
 · simp [e3]; omega
 by_cases e4 : i.Op = 16 ∨ i.Op = 17
 · have : ¬ (3 ≤ i.Op ∧ i.Op ≤ 14):=by omega
   simp only [e1,e2,e3,e4,this,if_false,if_true,Bool.and_eq_true,decide_eq_true_eq,true_and]; omega
 by_cases e5 : i.Op = 18
 · simp [e5]; omega
 by_cases e6 : i.Op = 19
 · simp [e6]; omega
 by_cases e7 : i.Op = 20
 · simp [e7]; omega
 by_cases e8 : i.Op = 21 ∨ i.Op = 22 ∨ i.Op = 24
 · have : ¬ (3 ≤ i.Op ∧ i.Op ≤ 14):=by omega
   simp only [e1,e2,e3,e4,e5,e6,e7,e8,this,if_false,if_true,Bool.and_eq_true,decide_eq_true_eq,true_and]; omega
 by_cases e9 : i.Op = 25
 · simp [e9]; omega
 by_cases e10 : 3 ≤ i.Op ∧ i.Op ≤ 14
 · have : 1 ≤ i.Op ∧ i.Op ≤ 17:=by omega
   simp only [e1,e2,e3,e4,e5,e6,e7,e8,e9,e10,this,if_false,if_true,Bool.and_eq_true,decide_eq_true_eq,true_and,and_self]; omega
 · have : ¬ (1 ≤ i.Op ∧ i.Op ≤ 17):=by omega
   simp only [e1,e2,e3,e4,e5,e6,e7,e8,e9,e10,this,if_false,decide_false,Bool.false_eq_true,false_and]
def TS (i : TIn) : Prop:=(0 ≤ i.K ∧ i.K < 18446744073709551616) ∧ i.A < 9223372036854775808 ∧ i.B < 9223372036854775808 ∧ i.C < 9223372036854775808 ∧ i.D < 9223372036854775808
theorem w_f3h (i : TIn) (h : TS i) : D_f3h.wp i fun y=>y = true ↔ Bg i = true:=by
 refine of_wp ?_
 simp only [tt_f3h]
 refine wC (w_f26 i.Op) fun (y : TCl × Bool) hy=>?_
 subst hy
 rw [← O6 h.1.1 h.1.2]
 generalize LS i.Op = m
 obtain ⟨⟨a,b,c,d,k⟩,ok⟩:=m
 cases ok <;> simp only [TT.wp,leI,ilI,ieI,bnI,ibI,Bool.and_eq_true,Bool.false_eq_true,true_iff,false_iff,false_imp_iff,not_false_eq_true,true_imp_iff,not_true_eq_false,true_and,and_true,false_and]
 · omega
theorem w_f27 (c : TRg) : D_f27.wp c fun y=>y = true ↔ A1 c = true:=by
 refine of_wp ?_
 have e : D_f27_3.wp (⟨c⟩ : X_f27_3) fun y=>y = true ↔ (c.Kind = 1 ∧ c.AU = 1 ∨ c.Kind = 2 ∧ 1 ≤ c.AU ∧ c.AU ≤ 8):=by
  refine of_wp ?_
  simp only [tt_f27_3,TT.wp,leI,ilI,ieI,bnI,ibI,Bool.and_eq_true,Bool.false_eq_true,true_iff,false_iff]
  omega
 simp only [tt_f27,TT.wp,leI,ilI,ieI,bnI,ibI,Bool.and_eq_true,Bool.false_eq_true,true_iff,false_iff,A1,decide_eq_true_eq]
 refine ⟨fun h=>by omega,fun h1=>⟨fun h=>by omega,fun h2=>e.mono fun y hy=>by rw [hy]; omega⟩⟩
theorem w_f3d (x : Int) : D_f3d.wp x fun y=>y = true ↔ 18 ≤ x ∧ x ≤ 20:=by
 refine of_wp ?_
 simp only [tt_f3d,TT.wp,leI,ilI,ieI,bnI,ibI,Bool.and_eq_true,Bool.false_eq_true,true_iff,false_iff]
 omega
structure Gm (p : TPg) : Prop where
 rn : p.AJ.n ≤ maxLen
 tn : p.AB.n ≤ maxLen
 ln : ∀ t,t < p.AB.n → (p.AB.get t).n ≤ maxLen
 ins : ∀ t,t < p.AB.n → ∀ k,k < (p.AB.get t).n → TS ((p.AB.get t).get k)
 rz : p.AJ.nil = true → p.AJ.n = 0
 lz : ∀ t,t < p.AB.n → (p.AB.get t).nil = true → (p.AB.get t).n = 0
def aP (p : TPg) : MP:=⟨p.AJ.L,p.AB.L.map Sl.L⟩
theorem I5 {α : Type} (s : Sl α) {i : Int} (h0 : 0 ≤ i) (h : i < s.n) (d : α) : s.L.getD i.toNat d = s.get i.toNat:=by
 have : i.toNat < s.n:=by omega
 rw [List.getD,Sl.DH _ this]; rfl
theorem w_f3m (p : TPg) (i : TIn) (n : Nat) (hi : TS i) (hn : n ≤ maxLen) (hr : ∀ c ∈ p.AJ.L,A1 c = true) : D_f3m.wp (p,(i,(n : Int))) fun y=>y = C4 p.AJ.L i n:=by
 refine of_wp ?_
 have hn:=Iz hn
 have hw : IntKind.u64.wrap (n : Int) = n:=Aj (by omega) (by omega)
 simp only [tt_f3m,hw]
 refine wC (w_f3h i hi) fun (y : Bool) hy=>?_
 simp only [TT.wp,leI,ilI,ieI,bnI,ibI,Bool.and_eq_true,Bool.false_eq_true,true_iff,false_iff,hy]
 refine ⟨fun h=>by simp [C4,h],fun h=>?_⟩
 have hR : Bg i = true:=by simpa using h
 have hf:=A6 hR
 have hrd : 0 ≤ i.C → i.C < p.AJ.n → IntKind.u64.wrap (p.AJ.get i.C.toNat).AU = (p.AJ.L.getD i.C.toNat ⟨0,0,0⟩).AU:=fun h0 h1=>by
  rw [I5 _ h0 h1]
  have:=FR (hr _ (Sl.CZ.2 ⟨i.C.toNat,by omega,rfl⟩))
  exact Aj (by omega) (by omega)
 have e : C4 p.AJ.L i n = if 15 ≤ i.Op ∧ i.Op ≤ 17 ∧ (n : Int) < i.K then 5 else if 18 ≤ i.Op ∧ i.Op ≤ 20 ∧ (p.AJ.n : Int) ≤ i.C then 7 else if i.Op = 19 ∧ (p.AJ.L.getD i.C.toNat ⟨0,0,0⟩).AU ≤ i.K then 7 else 0:=by
  simp only [C4,hR,Bool.true_eq_false,if_false,Sl.A8]
 rw [e]
 refine Pw (w_f3i i) fun (y : Bool) hj=>?_
 simp only [hj]
 refine ⟨fun h=>⟨fun h1=>by rw [if_pos ⟨h.1,h.2,h1⟩],fun h1=>?_⟩,fun h=>?_⟩
 all_goals
  refine Pw (w_f3d i.Op) fun (y : Bool) hg=>?_
  simp only [hg]
  refine ⟨fun h2=>⟨fun h3=>?_,fun h3=>⟨fun h4=>⟨?_,fun h5=>?_,fun h5=>?_⟩,fun h4=>?_⟩⟩,fun h2=>⟨fun h4=>by omega,fun h4=>?_⟩⟩
  all_goals (repeat' split) <;> first | rfl | (exfalso; omega) | omega
def JT (rs : List TRg) (l : Sl TIn) : Prop:=∀ k,k < l.n → C4 rs (l.get k) l.n = 0
theorem l_f4_16 (p : TPg) (hp : Gm p) (hr : ∀ c ∈ p.AJ.L,A1 c = true) (t : Nat) (ht : t < p.AB.n) (D11 : AQ X_f4_11 R_f4) (Q : R_f4 → Prop)
 (hbad : ∀ y : Int × Int × Int,y.2.2 ≠ 0 → ¬ JT p.AJ.L (p.AB.get t) → Q y) (hgood : JT p.AJ.L (p.AB.get t) → D11.wp ⟨p,p.AB,p.AB.n,IntKind.i64.wrap ((t : Int) + 1)⟩ Q) :
 (D_f4_16 D11).wp ⟨p,t,p.AB.get t,p.AB,p.AB.n,t,p.AB.get t,(p.AB.get t).n,0⟩ Q:=by
 have hl:=hp.ln t ht
 refine Cc (fun k=>(⟨p,t,p.AB.get t,p.AB,p.AB.n,t,p.AB.get t,(p.AB.get t).n,(k : Nat)⟩ : X_f4_16)) (p.AB.get t).n (fun k=>∀ j,j < k → C4 p.AJ.L ((p.AB.get t).get j) (p.AB.get t).n = 0) Q
  (fun D hJ=>?_) (fun D k hk hJ hD=>?_) (k:=0) (Nat.zero_le _) (fun j hj=>by omega)
 · simp only [tt_f4_16,BV,Nat.lt_irrefl,decide_false,CW]
   exact of_wp (hgood hJ)
 · simp only [tt_f4_16,BV,hk,decide_true,DA,BL hk,Be,Int.toNat_natCast,CG hk hl]
   refine wC (w_f3m p _ _ (hp.ins t ht k hk) hl hr) fun (y : Int) hy=>?_
   subst hy
   simp only [TT.wp,bnI,ieI]
   refine ⟨fun h=>hbad _ h fun hok=>h (hok k hk),fun h=>hD fun j hj=>?_⟩
   by_cases e : j = k
   · subst e; exact Classical.byContradiction h
   · exact hJ j (by omega)
theorem OR (p : TPg) (h1 : 1 ≤ p.AB.n) (h2 : p.AB.n ≤ 8) (h3 : p.AJ.n ≤ 8) (hr : ∀ c ∈ p.AJ.L,A1 c = true)
 (ht : ∀ t,t < p.AB.n → (p.AB.get t).n ≤ 256 ∧ JT p.AJ.L (p.AB.get t)) : DP (aP p) where
 t1:=by simpa [aP] using h1
 t8:=by simpa [aP] using h2
 r8:=by simpa [aP] using h3
 rg:=hr
 len l hl:=by
  simp only [aP,List.mem_map] at hl
  obtain ⟨s,hs,rfl⟩:=hl
  obtain ⟨t,h,rfl⟩:=Sl.CZ.1 hs
  simpa using (ht t h).1
 ins l hl i hi:=by
  simp only [aP,List.mem_map] at hl
  obtain ⟨s,hs,rfl⟩:=hl
  obtain ⟨t,h,rfl⟩:=Sl.CZ.1 hs
  obtain ⟨k,hk,rfl⟩:=Sl.CZ.1 hi
  have:=(ht t h).2 k hk
  simpa [aP] using this
theorem Bc {p : TPg} (h : DP (aP p)) : 1 ≤ p.AB.n ∧ p.AB.n ≤ 8 ∧ p.AJ.n ≤ 8 ∧ (∀ c ∈ p.AJ.L,A1 c = true) ∧ ∀ t,t < p.AB.n → (p.AB.get t).n ≤ 256 ∧ JT p.AJ.L (p.AB.get t):=by
 have hm : ∀ t,t < p.AB.n → (p.AB.get t).L ∈ (aP p).AB:=fun t ht=>List.mem_map.2 ⟨_,Sl.CZ.2 ⟨t,ht,rfl⟩,rfl⟩
 refine ⟨by simpa [aP] using h.t1,by simpa [aP] using h.t8,by simpa [aP] using h.r8,h.rg,fun t ht=>⟨by simpa using h.len _ (hm t ht),fun k hk=>?_⟩⟩
 have:=h.ins _ (hm t ht) _ (Sl.CZ.2 ⟨k,hk,rfl⟩)
 simpa [aP] using this
theorem l_f4_11 (p : TPg) (hp : Gm p) (h1 : 1 ≤ p.AB.n) (h2 : p.AB.n ≤ 8) (h3 : p.AJ.n ≤ 8) (hr : ∀ c ∈ p.AJ.L,A1 c = true) :
 D_f4_11.wp ⟨p,p.AB,p.AB.n,0⟩ fun y=>y.2.2 = 0 ↔ DP (aP p):=by
 refine Cc (fun k=>(⟨p,p.AB,p.AB.n,(k : Nat)⟩ : X_f4_11)) p.AB.n (fun k=>∀ t,t < k → (p.AB.get t).n ≤ 256 ∧ JT p.AJ.L (p.AB.get t)) _
  (fun D hJ=>?_) (fun D k hk hJ hD=>?_) (k:=0) (Nat.zero_le _) (fun j hj=>by omega)
 · simp only [tt_f4_11,BV,Nat.lt_irrefl,decide_false,CW]
   exact ⟨fun _=>OR p h1 h2 h3 hr hJ,fun _=>rfl⟩
 · simp only [tt_f4_11,BV,hk,decide_true,DA,BL hk,Be,Int.toNat_natCast]
   refine AE ilI (fun h=>?_) (fun h=>?_)
   · show ((4 : Int) = 0 ↔ _)
     refine ⟨fun h=>by omega,fun hP=>?_⟩
     have:=((Bc hP).2.2.2.2 k hk).1
     omega
   · refine l_f4_16 p hp hr k hk D _ (fun y hy hno=>⟨fun h=>absurd h hy,fun hP=>absurd ((Bc hP).2.2.2.2 k hk).2 hno⟩) fun hok=>?_
     rw [CG hk hp.tn]
     refine hD fun t ht=>?_
     by_cases e : t = k
     · subst e; exact ⟨by omega,hok⟩
     · exact hJ t (by omega)
theorem w_f4 (p : TPg) (hp : Gm p) : D_f4.wp p fun y=>y.2.2 = 0 ↔ DP (aP p):=by
 have ne : ∀ {x : Int} {q : Prop},x ≠ 0 → ¬ q → (x = 0 ↔ q):=fun h k=>⟨fun e=>absurd e h,fun e=>absurd e k⟩
 refine of_wp ?_
 simp only [tt_f4]
 refine AE ieI (fun h=>?_) fun h0=>AE ilI (fun h=>?_) fun h8=>AE ilI (fun h=>?_) fun hr8=>?_
 · exact ne (by decide) fun hP=>by have:=(Bc hP).1; omega
 · exact ne (by decide) fun hP=>by have:=(Bc hP).2.1; omega
 · exact ne (by decide) fun hP=>by have:=(Bc hP).2.2.1; omega
 · refine of_wp ?_
   simp only [tt_f4_4]
   refine Cc (fun k=>(⟨p,p.AJ,p.AJ.n,(k : Nat)⟩ : X_f4_5)) p.AJ.n (fun k=>∀ j,j < k → A1 (p.AJ.get j) = true) _
    (fun D hJ=>?_) (fun D k hk hJ hD=>?_) (k:=0) (Nat.zero_le _) (fun j hj=>by omega)
   · simp only [tt_f4_5,BV,Nat.lt_irrefl,decide_false,CW]
     refine of_wp ?_
     simp only [tt_f4_10]
     exact l_f4_11 p hp (by omega) (by omega) (by omega) fun c hc=>by
      obtain ⟨j,hj,rfl⟩:=Sl.CZ.1 hc
      exact hJ j hj
   · simp only [tt_f4_5,BV,hk,decide_true,DA,BL hk,Be,Int.toNat_natCast,CG hk hp.rn]
     refine wC (w_f27 _) fun (y : Bool) hy=>?_
     simp only [TT.wp,bnI,hy]
     refine ⟨fun h=>ne (by decide) fun hP=>h ((Bc hP).2.2.2.1 _ (Sl.CZ.2 ⟨k,hk,rfl⟩)),fun h=>hD fun j hj=>?_⟩
     by_cases e : j = k
     · subst e; exact Classical.byContradiction h
     · exact hJ j (by omega)
theorem w_f3n (p : TPg) (hp : Gm p) : D_f3n.wp p fun y=>y = true ↔ DP (aP p):=by
 refine of_wp ?_
 simp only [tt_f3n]
 refine wC (w_f4 p hp) fun (y : Int × Int × Int) hy=>?_
 show (AX y.2.2 0 = true ↔ _)
 rw [ieI]
 exact hy
def Ch (x : Int) : ByteArray :=
 if x = 1 then ⟨#[114,48,48,48,110]⟩
 else if x = 2 ∨ x = 23 then ⟨#[114,114,48,48,48]⟩
 else if 3 ≤ x ∧ x ≤ 14 then ⟨#[114,114,114,48,48]⟩
 else if x = 15 then ⟨#[48,48,48,48,112]⟩
 else if x = 16 ∨ x = 17 then ⟨#[114,48,48,48,112]⟩
 else if x = 18 then ⟨#[114,114,103,109,48]⟩
 else if x = 19 then ⟨#[114,114,103,109,100]⟩
 else if x = 20 then ⟨#[48,48,103,48,48]⟩
 else if x = 21 ∨ x = 22 ∨ x = 24 then ⟨#[114,48,48,48,48]⟩
 else if x = 25 then ⟨#[48,48,48,48,48]⟩
 else ⟨#[]⟩
def CM (c : Int) : Int:=if c = 114 ∨ c = 103 ∨ c = 100 then 7 else if c = 109 then 2 else if c = 112 then 256 else if c = 110 then 18446744073709551615 else 0
theorem w_f49 (x : Int) : D_f49.wp x fun y=>y = Ch x:=by
 refine of_wp ?_
 simp only [tt_f49,TT.wp,ieI,leI]
 repeat' (first | apply And.intro | intro _)
 all_goals first
  | (exfalso; omega)
  | (rename_i h; subst h; rfl)
  | (unfold Ch; rw [if_neg (by omega),if_neg (by omega),if_pos (by omega)])
  | (unfold Ch; rw [if_neg (by omega),if_neg (by omega),if_neg (by omega),if_neg (by omega),if_neg (by omega),if_neg (by omega),if_neg (by omega),if_neg (by omega),if_neg (by omega),if_neg (by omega)])
theorem w_f44 (x : Int) : D_f44.wp x fun y=>y = CM x:=by
 refine of_wp ?_
 simp only [tt_f44,TT.wp,ieI]
 repeat' (first | apply And.intro | intro _)
 all_goals first
  | (rename_i h; subst h; rfl)
  | (unfold CM; rw [if_neg (by omega),if_neg (by omega),if_neg (by omega),if_neg (by omega)])
def Jl (i : TIn) (j : Nat) : Int:=cond (Nat.beq j 0) i.A (cond (Nat.beq j 1) i.B (cond (Nat.beq j 2) i.C i.D))
theorem Qz (x : Int) : Ch x = ⟨#[]⟩ ∨ (Ch x).size = 5:=by
 unfold Ch
 repeat' split
 all_goals first | exact .inr rfl | exact .inl rfl
theorem PH {i : TIn} (h : TS i) : (Ch i.Op ≠ ⟨#[]⟩ ∧ i.K ≤ CM (bt (Ch i.Op) 4) ∧ ∀ j,j < 4 → 0 ≤ Jl i j ∧ Jl i j ≤ CM (bt (Ch i.Op) j)) ↔ Bg i = true:=by
 have e4 : ∀ (f : ByteArray),(∀ j,j < 4 → 0 ≤ Jl i j ∧ Jl i j ≤ CM (bt f j)) ↔ (0 ≤ i.A ∧ i.A ≤ CM (bt f 0)) ∧ (0 ≤ i.B ∧ i.B ≤ CM (bt f 1)) ∧ (0 ≤ i.C ∧ i.C ≤ CM (bt f 2)) ∧ (0 ≤ i.D ∧ i.D ≤ CM (bt f 3)):=by
  intro f
  refine ⟨fun h=>⟨h 0 (by omega),h 1 (by omega),h 2 (by omega),h 3 (by omega)⟩,fun h j hj=>?_⟩
  match j,hj with
  | 0,_=>exact h.1
  | 1,_=>exact h.2.1
  | 2,_=>exact h.2.2.1
  | 3,_=>exact h.2.2.2
 rw [e4]
 obtain ⟨⟨k0,k1⟩,_⟩:=h
 have m : CM 114 = 7 ∧ CM 48 = 0 ∧ CM 110 = 18446744073709551615 ∧ CM 112 = 256 ∧ CM 103 = 7 ∧ CM 109 = 2 ∧ CM 100 = 7:=by decide
 obtain ⟨m1,m2,m3,m4,m5,m6,m7⟩:=m
 have ne : ∀ {a b c d e : UInt8},(⟨#[a,b,c,d,e]⟩ : ByteArray) ≠ ⟨#[]⟩:=fun h=>by cases h
 have b5 : ∀ (a b c d e : UInt8),bt ⟨#[a,b,c,d,e]⟩ 0 = (a.toNat : Int) ∧ bt ⟨#[a,b,c,d,e]⟩ 1 = (b.toNat : Int) ∧ bt ⟨#[a,b,c,d,e]⟩ 2 = (c.toNat : Int) ∧ bt ⟨#[a,b,c,d,e]⟩ 3 = (d.toNat : Int) ∧ bt ⟨#[a,b,c,d,e]⟩ 4 = (e.toNat : Int) :=
  fun a b c d e=>⟨rfl,rfl,rfl,rfl,rfl⟩
 have u : (((114 : UInt8).toNat : Nat) : Int) = 114 ∧ (((48 : UInt8).toNat : Nat) : Int) = 48 ∧ (((110 : UInt8).toNat : Nat) : Int) = 110 ∧ (((112 : UInt8).toNat : Nat) : Int) = 112 ∧ (((103 : UInt8).toNat : Nat) : Int) = 103 ∧
  (((109 : UInt8).toNat : Nat) : Int) = 109 ∧ (((100 : UInt8).toNat : Nat) : Int) = 100:=by decide
 obtain ⟨u1,u2,u3,u4,u5,u6,u7⟩:=u
 have key : ∀ (a b c d e : UInt8),((⟨#[a,b,c,d,e]⟩ : ByteArray) ≠ ⟨#[]⟩ ∧ i.K ≤ CM (bt ⟨#[a,b,c,d,e]⟩ 4) ∧ (0 ≤ i.A ∧ i.A ≤ CM (bt ⟨#[a,b,c,d,e]⟩ 0)) ∧ (0 ≤ i.B ∧ i.B ≤ CM (bt ⟨#[a,b,c,d,e]⟩ 1)) ∧ (0 ≤ i.C ∧ i.C ≤ CM (bt ⟨#[a,b,c,d,e]⟩ 2)) ∧ (0 ≤ i.D ∧ i.D ≤ CM (bt ⟨#[a,b,c,d,e]⟩ 3))) ↔
  (i.K ≤ CM e.toNat ∧ (0 ≤ i.A ∧ i.A ≤ CM a.toNat) ∧ (0 ≤ i.B ∧ i.B ≤ CM b.toNat) ∧ (0 ≤ i.C ∧ i.C ≤ CM c.toNat) ∧ (0 ≤ i.D ∧ i.D ≤ CM d.toNat)):=by
  intro a b c d e
  obtain ⟨h0,h1,h2,h3,h4⟩:=b5 a b c d e
  rw [h0,h1,h2,h3,h4]
  exact ⟨fun h=>h.2,fun h=>⟨ne,h⟩⟩
 by_cases e1 : i.Op = 1
 · have hf : Ch i.Op = ⟨#[114,48,48,48,110]⟩:=by rw [e1]; rfl
   rw [hf,key,u1,u2,u3,m1,m2,m3]; unfold Bg; simp only [e1]; simp; omega
 by_cases e2 : i.Op = 2 ∨ i.Op = 23
 · have hf : Ch i.Op = ⟨#[114,114,48,48,48]⟩:=by unfold Ch; rw [if_neg e1,if_pos e2]
   rw [hf,key,u1,u2,m1,m2]; unfold Bg; simp only [e1,e2,if_false,if_true,Bool.and_eq_true,decide_eq_true_eq]; omega
 by_cases e3 : 3 ≤ i.Op ∧ i.Op ≤ 14
 · have hf : Ch i.Op = ⟨#[114,114,114,48,48]⟩:=by unfold Ch; rw [if_neg e1,if_neg e2,if_pos e3]
   rw [hf,key,u1,u2,m1,m2]; unfold Bg; simp only [e1,e2,e3,if_false,if_true,and_self,Bool.and_eq_true,decide_eq_true_eq]; omega
 by_cases e4 : i.Op = 15
 · have hf : Ch i.Op = ⟨#[48,48,48,48,112]⟩:=by rw [e4]; rfl
   rw [hf,key,u2,u4,m2,m4]; unfold Bg; simp only [e4]; simp; omega
 by_cases e5 : i.Op = 16 ∨ i.Op = 17
 · have hf : Ch i.Op = ⟨#[114,48,48,48,112]⟩:=by unfold Ch; rw [if_neg e1,if_neg e2,if_neg e3,if_neg e4,if_pos e5]
   rw [hf,key,u1,u2,u4,m1,m2,m4]; unfold Bg; simp only [e1,e2,e3,e4,e5,if_false,if_true,Bool.and_eq_true,decide_eq_true_eq]; omega
 by_cases e6 : i.Op = 18
 · have hf : Ch i.Op = ⟨#[114,114,103,109,48]⟩:=by rw [e6]; rfl
   rw [hf,key,u1,u2,u5,u6,m1,m2,m5,m6]; unfold Bg; simp only [e6]; simp; omega
 by_cases e7 : i.Op = 19
 · have hf : Ch i.Op = ⟨#[114,114,103,109,100]⟩:=by rw [e7]; rfl
   rw [hf,key,u1,u5,u6,u7,m1,m5,m6,m7]; unfold Bg; simp only [e7]; simp; omega
 by_cases e8 : i.Op = 20
 · have hf : Ch i.Op = ⟨#[48,48,103,48,48]⟩:=by rw [e8]; rfl
   rw [hf,key,u2,u5,m2,m5]; unfold Bg; simp only [e8]; simp; omega
 by_cases e9 : i.Op = 21 ∨ i.Op = 22 ∨ i.Op = 24
 · have hf : Ch i.Op = ⟨#[114,48,48,48,48]⟩:=by unfold Ch; rw [if_neg e1,if_neg e2,if_neg e3,if_neg e4,if_neg e5,if_neg e6,if_neg e7,if_neg e8,if_pos e9]
   rw [hf,key,u1,u2,m1,m2]; unfold Bg; simp only [e1,e2,e3,e4,e5,e6,e7,e8,e9,if_false,if_true,Bool.and_eq_true,decide_eq_true_eq]; omega
 by_cases e10 : i.Op = 25
 · have hf : Ch i.Op = ⟨#[48,48,48,48,48]⟩:=by rw [e10]; rfl
   rw [hf,key,u2,m2]; unfold Bg; simp only [e10]; simp; omega
 · have hf : Ch i.Op = ⟨#[]⟩:=by unfold Ch; rw [if_neg e1,if_neg e2,if_neg e3,if_neg e4,if_neg e5,if_neg e6,if_neg e7,if_neg e8,if_neg e9,if_neg e10]
   rw [hf]; unfold Bg; simp only [e1,e2,e3,e4,e5,e6,e7,e8,e9,e10,if_false,ne_eq,not_true_eq_false,false_and,Bool.false_eq_true]
theorem w_fl (i : TIn) (h : TS i) : D_fl.wp i fun y=>y = true ↔ Bg i = true:=by
 refine of_wp ?_
 simp only [tt_fl]
 refine wC (w_f49 i.Op) fun (y : ByteArray) hy=>?_
 subst hy
 have hR:=PH h
 have hs:=Qz i.Op
 generalize Ch i.Op = f at hR hs
 refine AE (p:=f = ⟨#[]⟩) MM (fun he=>?_) (fun he=>?_)
 · show (false = true ↔ _)
   rw [← hR]; exact ⟨fun h=>absurd h (by decide),fun h=>absurd he h.1⟩
 · have hs : f.size = 5:=hs.resolve_left he
   refine wN (by rw [ibI,hs]; decide) ?_
   refine wC (w_f44 _) fun (y : Int) hy=>?_
   subst hy
   refine AE ilI (fun hk=>?_) (fun hk=>?_)
   · show (false = true ↔ _)
     rw [← hR]
     refine ⟨fun h=>absurd h (by decide),fun h=>?_⟩
     have:=h.2.1
     exact absurd hk (Int.not_lt.2 this)
   · refine of_wp ?_
     simp only [tt_fl_4]
     refine Cc (fun k=>(⟨f,⟨false,4,Jl i⟩,(k : Nat)⟩ : X_fl_6)) 4 (fun k=>∀ j,j < k → 0 ≤ Jl i j ∧ Jl i j ≤ CM (bt f j)) _
      (fun D hJ=>?_) (fun D k hk4 hJ hD=>?_) (k:=0) (Nat.zero_le _) (fun j hj=>by omega)
     · simp only [tt_fl_6]
       refine AE ilI (fun hk=>absurd hk (by decide)) (fun _=>?_)
       show (true = true ↔ _)
       rw [← hR]
       exact ⟨fun _=>⟨he,Int.not_lt.1 hk,hJ⟩,fun _=>rfl⟩
     · simp only [tt_fl_6]
       refine AE ilI (fun _=>?_) (fun hk=>absurd (Int.ofNat_lt.2 hk4) hk)
       refine wN (by rw [ibI]; exact ⟨Int.natCast_nonneg _,Int.ofNat_lt.2 hk4⟩) ?_
       rw [Int.toNat_natCast]
       have hb : Jl i k < 9223372036854775808:=by
        obtain ⟨_,a,b,c,d⟩:=h
        match k,hk4 with
        | 0,_=>exact a
        | 1,_=>exact b
        | 2,_=>exact c
        | 3,_=>exact d
       refine AE (p:=Jl i k < 0) ilI (fun hn=>?_) (fun hn=>?_)
       · show (false = true ↔ _)
         rw [← hR]
         refine ⟨fun h=>absurd h (by decide),fun h=>?_⟩
         have:=(h.2.2 k hk4).1; omega
       · refine wN (by rw [ibI]; exact ⟨Int.natCast_nonneg _,Int.ofNat_lt.2 hk4⟩) (wN (by rw [ibI,hs]; omega) ?_)
         refine wC (w_f44 _) fun (y : Int) hy=>?_
         subst hy
         refine AE (p:=CM (bt f k) < Jl i k) (by rw [ilI]; show CM _ < IntKind.u64.wrap (Jl i k) ↔ _; rw [Aj (by omega) (by omega)]) (fun hn2=>?_) (fun hn2=>?_)
         · show (false = true ↔ _)
           rw [← hR]
           refine ⟨fun h=>absurd h (by decide),fun h=>?_⟩
           have:=(h.2.2 k hk4).2; omega
         · refine of_wp ?_
           simp only [tt_fl_7]
           have e : IntKind.i64.wrap ((k : Int) + 1) = ((k + 1 : Nat) : Int):=by rw [wrap64] <;> omega
           show D.wp ⟨f,⟨false,4,Jl i⟩,_⟩ _
           rw [e]
           refine hD fun j hj=>?_
           by_cases ej : j = k
           · subst ej; exact ⟨by omega,by omega⟩
           · exact hJ j (by omega)
theorem w_f48 (c : TRg) : D_f48.wp c fun y=>y = true ↔ A1 c = true:=by
 refine of_wp ?_
 simp only [tt_f48,TT.wp,leI,ilI,ieI,bnI,ibI,Bool.and_eq_true,Bool.false_eq_true,true_iff,false_iff,A1,decide_eq_true_eq]
 omega
theorem w_f28 (p : TPg) (i : TIn) (n : Nat) (hn : n ≤ maxLen) (hr : ∀ c ∈ p.AJ.L,A1 c = true) (hR : Bg i = true) : D_f28.wp (p,(i,(n : Int))) fun y=>y = C4 p.AJ.L i n:=by
 have hn:=Iz hn
 have hw : IntKind.u64.wrap (n : Int) = n:=Aj (by omega) (by omega)
 have hf:=A6 hR
 have hrd : 0 ≤ i.C → i.C < p.AJ.n → IntKind.u64.wrap (p.AJ.get i.C.toNat).AU = (p.AJ.L.getD i.C.toNat ⟨0,0,0⟩).AU:=fun h0 h1=>by
  rw [I5 _ h0 h1]
  have:=FR (hr _ (Sl.CZ.2 ⟨i.C.toNat,by omega,rfl⟩))
  exact Aj (by omega) (by omega)
 have e : C4 p.AJ.L i n = if 15 ≤ i.Op ∧ i.Op ≤ 17 ∧ (n : Int) < i.K then 5 else if 18 ≤ i.Op ∧ i.Op ≤ 20 ∧ (p.AJ.n : Int) ≤ i.C then 7 else if i.Op = 19 ∧ (p.AJ.L.getD i.C.toNat ⟨0,0,0⟩).AU ≤ i.K then 7 else 0:=by
  simp only [C4,hR,Bool.true_eq_false,if_false,Sl.A8]
 have e3 : ¬ (15 ≤ i.Op ∧ i.Op ≤ 17 ∧ (n : Int) < i.K) → D_f28_3.wp (⟨p,i⟩ : X_f28_3) fun y=>y = C4 p.AJ.L i n:=by
  intro hno
  refine of_wp ?_
  rw [e,if_neg hno]
  simp only [tt_f28_3,TT.wp,leI,ilI,ieI,bnI,ibI,Bool.and_eq_true,Bool.false_eq_true,true_iff,false_iff]
  repeat' (first | apply And.intro | intro _)
  all_goals first
   | omega
   | ((repeat' split) <;> first | rfl | (exfalso; omega) | omega)
 refine of_wp ?_
 simp only [tt_f28,hw]
 refine AE leI (fun h=>AE leI (fun h2=>AE ilI (fun h3=>?_) (fun h3=>?_)) (fun h2=>?_)) (fun h=>?_)
 · show (5 : Int) = _
   rw [e,if_pos ⟨h,h2,h3⟩]
 · exact e3 fun hh=>h3 hh.2.2
 · exact e3 fun hh=>h2 hh.2.1
 · exact e3 fun hh=>h hh.1
theorem l_f3_15 (p : TPg) (hp : Gm p) (hr : ∀ c ∈ p.AJ.L,A1 c = true) (t : Nat) (ht : t < p.AB.n) (D9 : AQ X_f3_9 R_f3) (Q : R_f3 → Prop)
 (hbad : ∀ y : Int × Int × Int,y.2.2 ≠ 0 → ¬ JT p.AJ.L (p.AB.get t) → Q y) (hgood : JT p.AJ.L (p.AB.get t) → D9.wp ⟨p,IntKind.i64.wrap ((t : Int) + 1)⟩ Q) :
 (D_f3_15 D9).wp ⟨p,t,p.AB.get t,0⟩ Q:=by
 have hl:=hp.ln t ht
 refine Cc (fun k=>(⟨p,t,p.AB.get t,(k : Nat)⟩ : X_f3_15)) (p.AB.get t).n (fun k=>∀ j,j < k → C4 p.AJ.L ((p.AB.get t).get j) (p.AB.get t).n = 0) Q
  (fun D hJ=>?_) (fun D k hk hJ hD=>?_) (k:=0) (Nat.zero_le _) (fun j hj=>by omega)
 · simp only [tt_f3_15,BV,Nat.lt_irrefl,decide_false,CW]
   refine of_wp ?_
   simp only [tt_f3_10]
   exact hgood hJ
 · simp only [tt_f3_15,BV,hk,decide_true,DA,BL hk,Be,Int.toNat_natCast]
   have h20 : ∀ e,e = C4 p.AJ.L ((p.AB.get t).get k) (p.AB.get t).n →
    (D_f3_20 D9 D).wp (⟨p,t,p.AB.get t,k,e⟩ : X_f3_20) Q:=by
    intro e he
    refine of_wp ?_
    simp only [tt_f3_20]
    refine AE (p:=e ≠ 0) (by rw [bnI,ieI]) (fun h=>?_) (fun h=>?_)
    · exact hbad (_,_,e) h fun hok=>h (he.trans (hok k hk))
    · refine of_wp ?_
      simp only [tt_f3_16,CG hk hl]
      refine hD fun j hj=>?_
      by_cases ej : j = k
      · subst ej; rw [← he]; exact Classical.byContradiction h
      · exact hJ j (by omega)
   refine wC (w_fl _ (hp.ins t ht k hk)) fun (y : Bool) hy=>?_
   refine AE hy (fun hR=>?_) (fun hR=>?_)
   · exact wN rfl (wC (w_f28 p _ _ hl hr hR) fun (y : Int) hy =>
     h20 y hy)
   · refine h20 6 ?_
     rw [C4,if_pos (by simpa using hR)]
theorem l_f3_9 (p : TPg) (hp : Gm p) (h1 : 1 ≤ p.AB.n) (h2 : p.AB.n ≤ 8) (h3 : p.AJ.n ≤ 8) (hr : ∀ c ∈ p.AJ.L,A1 c = true) :
 D_f3_9.wp ⟨p,0⟩ fun y=>y.2.2 = 0 ↔ DP (aP p):=by
 refine Cc (fun k=>(⟨p,(k : Nat)⟩ : X_f3_9)) p.AB.n (fun k=>∀ t,t < k → (p.AB.get t).n ≤ 256 ∧ JT p.AJ.L (p.AB.get t)) _
  (fun D hJ=>?_) (fun D k hk hJ hD=>?_) (k:=0) (Nat.zero_le _) (fun j hj=>by omega)
 · simp only [tt_f3_9,BV,Nat.lt_irrefl,decide_false,CW]
   exact ⟨fun _=>OR p h1 h2 h3 hr hJ,fun _=>rfl⟩
 · simp only [tt_f3_9,BV,hk,decide_true,DA,BL hk,Be,Int.toNat_natCast]
   refine AE ilI (fun h=>?_) (fun h=>?_)
   · show ((4 : Int) = 0 ↔ _)
     refine ⟨fun h=>by omega,fun hP=>?_⟩
     have:=((Bc hP).2.2.2.2 k hk).1
     omega
   · refine l_f3_15 p hp hr k hk D _ (fun y hy hno=>⟨fun h=>absurd h hy,fun hP=>absurd ((Bc hP).2.2.2.2 k hk).2 hno⟩) fun hok=>?_
     rw [CG hk hp.tn]
     refine hD fun t ht=>?_
     by_cases e : t = k
     · subst e; exact ⟨by omega,hok⟩
     · exact hJ t (by omega)
theorem w_f3 (p : TPg) (hp : Gm p) : D_f3.wp p fun y=>y.2.2 = 0 ↔ DP (aP p):=by
 have ne : ∀ {x : Int} {q : Prop},x ≠ 0 → ¬ q → (x = 0 ↔ q):=fun h k=>⟨fun e=>absurd e h,fun e=>absurd e k⟩
 refine of_wp ?_
 simp only [tt_f3]
 refine AE ieI (fun h=>?_) fun h0=>AE ilI (fun h=>?_) fun h8=>AE ilI (fun h=>?_) fun hr8=>?_
 · exact ne (by decide) fun hP=>by have:=(Bc hP).1; omega
 · exact ne (by decide) fun hP=>by have:=(Bc hP).2.1; omega
 · exact ne (by decide) fun hP=>by have:=(Bc hP).2.2.1; omega
 · refine of_wp ?_
   simp only [tt_f3_3]
   refine Cc (fun k=>(⟨p,(k : Nat)⟩ : X_f3_4)) p.AJ.n (fun k=>∀ j,j < k → A1 (p.AJ.get j) = true) _
    (fun D hJ=>?_) (fun D k hk hJ hD=>?_) (k:=0) (Nat.zero_le _) (fun j hj=>by omega)
   · simp only [tt_f3_4,BV,Nat.lt_irrefl,decide_false,CW]
     refine of_wp ?_
     simp only [tt_f3_8]
     exact l_f3_9 p hp (by omega) (by omega) (by omega) fun c hc=>by
      obtain ⟨j,hj,rfl⟩:=Sl.CZ.1 hc
      exact hJ j hj
   · simp only [tt_f3_4,BV,hk,decide_true,DA,BL hk,Be,Int.toNat_natCast,CG hk hp.rn]
     refine wC (w_f48 _) fun (y : Bool) hy=>?_
     simp only [TT.wp,bnI,hy]
     refine ⟨fun h=>ne (by decide) fun hP=>h ((Bc hP).2.2.2.1 _ (Sl.CZ.2 ⟨k,hk,rfl⟩)),fun h=>hD fun j hj=>?_⟩
     by_cases e : j = k
     · subst e; exact Classical.byContradiction h
     · exact hJ j (by omega)
theorem w_f41 (p : TPg) (hp : Gm p) : D_f41.wp p fun y=>y = true ↔ DP (aP p):=by
 refine of_wp ?_
 simp only [tt_f41]
 refine wC (w_f3 p hp) fun (y : Int × Int × Int) hy=>?_
 show (AX y.2.2 0 = true ↔ _)
 rw [ieI]
 exact hy
theorem K5 {P : Program} {X R : Type} {tt : AQ X R → X → TT P R} (st : Nat → X) (N : Nat) (p : Nat → Prop) (Q : R → Prop) (hend : ∀ D,(∀ j,j < N → p j) → (tt D (st N)).wp Q)
 (hstep : ∀ (D : AQ X R) k,k < N → (p k → D.wp (st (k + 1)) Q) → (tt D (st k)).wp Q) : (AQ.loop tt).wp (st 0) Q :=
 Cc st N (fun k=>∀ j,j < k → p j) Q hend
  (fun D k hk hJ hD=>hstep D k hk fun h=>hD fun j hj=>by
    by_cases e : j = k
    · subst e; exact h
    · exact hJ j (by omega)) (Nat.zero_le _) fun j hj=>by omega
theorem BP {q : Prop} (h : ¬ q) : (false = true ↔ q):=⟨fun e=>absurd e (by decide),fun k=>absurd k h⟩
theorem Oj {q : Prop} (h : q) : (true = true ↔ q):=⟨fun _=>h,fun _=>rfl⟩
theorem De {b : Bool} {p q : Prop} (hb : b = true ↔ p) (h : p ↔ q) : (b = true ↔ q):=hb.trans h
structure C6 {α : Type} (y x : Sl α) : Prop where
 n : y.n = x.n
 g : ∀ i,i < x.n → y.get i = x.get i
theorem C6.L {α : Type} {y x : Sl α} (h : C6 y x) : y.L = x.L:=Sl.Sy h.n fun i hi=>h.g i (h.n ▸ hi)
theorem C6.refl {α : Type} (x : Sl α) : C6 x x:=⟨rfl,fun _ _=>rfl⟩
def Ce {α : Type} (x : Sl α) : Prop:=x.nil = true → x.n = 0
theorem M0 (i : Nat) : Nat.blt i 0 = false:=rfl
theorem room_le {n b : Nat} (h : n * b ≤ 140737488351232) : (true && room (0 + n) b) = true:=by simp [room]; omega
theorem Vq (x : Sl Int) (h : Ce x) (hn : x.n * 8 ≤ 140737488351232) : D_f4s.wp x fun y=>C6 y x ∧ Ce y:=by
 refine of_wp ?_
 simp only [tt_f4s]
 refine BM (fun e=>⟨⟨(h e).symm,fun i hi=>by have:=h e; omega⟩,fun _=>rfl⟩) fun _=>wN (room_le hn) ⟨⟨?_,fun i _=>rfl⟩,fun e=>?_⟩
 · exact Nat.zero_add _
 · simp only [Bool.cond_self,Bool.false_eq_true] at e
theorem Hh (x : Sl Int) (h : Ce x) (hn : x.n * 8 ≤ 140737488351232) : D_f20.wp x fun y=>C6 y x ∧ Ce y:=by
 refine of_wp ?_
 simp only [tt_f20]
 refine BM (fun e=>⟨⟨(h e).symm,fun i hi=>by have:=h e; omega⟩,fun _=>rfl⟩) fun _=>wN (room_le hn) ⟨⟨?_,fun i _=>rfl⟩,fun e=>?_⟩
 · exact Nat.zero_add _
 · simp only [Bool.cond_self,Bool.false_eq_true] at e
theorem Jd (x : Sl TSo) (h : Ce x) (hn : x.n * 24 ≤ 140737488351232) : D_f1l.wp x fun y=>C6 y x ∧ Ce y:=by
 refine of_wp ?_
 simp only [tt_f1l]
 refine BM (fun e=>⟨⟨(h e).symm,fun i hi=>by have:=h e; omega⟩,fun _=>rfl⟩) fun _=>wN (room_le hn) ⟨⟨?_,fun i _=>rfl⟩,fun e=>?_⟩
 · exact Nat.zero_add _
 · simp only [Bool.cond_self,Bool.false_eq_true] at e
theorem LI (x : Sl TIn) (h : Ce x) (hn : x.n * 48 ≤ 140737488351232) : D_f1y.wp x fun y=>C6 y x ∧ Ce y:=by
 refine of_wp ?_
 simp only [tt_f1y]
 refine BM (fun e=>⟨⟨(h e).symm,fun i hi=>by have:=h e; omega⟩,fun _=>rfl⟩) fun _=>wN (room_le hn) ⟨⟨?_,fun i _=>rfl⟩,fun e=>?_⟩
 · exact Nat.zero_add _
 · simp only [Bool.cond_self,Bool.false_eq_true] at e
theorem ME (x : Sl TRg) (h : Ce x) (hn : x.n * 24 ≤ 140737488351232) : D_f25.wp x fun y=>C6 y x ∧ Ce y:=by
 refine of_wp ?_
 simp only [tt_f25]
 refine BM (fun e=>⟨⟨(h e).symm,fun i hi=>by have:=h e; omega⟩,fun _=>rfl⟩) fun _=>wN (room_le hn) ⟨⟨?_,fun i _=>rfl⟩,fun e=>?_⟩
 · exact Nat.zero_add _
 · simp only [Bool.cond_self,Bool.false_eq_true] at e
theorem Je (x : Ar TSo) (h : 0 < x.n) (hn : x.n * 24 ≤ 140737488351232) : D_fx.wp x fun y=>C6 y ⟨false,x.n,x.get⟩ ∧ Ce y:=by
 refine B3 ?_
 simp only [tt_fx]
 refine wN (by simpa [Nat.blt_eq] using h) (wN (by simpa [room] using hn) ⟨⟨Nat.zero_add _,fun i _=>?_⟩,fun e=>?_⟩)
 · simp [M0]
 · simp only [Bool.cond_self,Bool.false_eq_true] at e
theorem Hi (x : Ar Int) (h : 0 < x.n) (hn : x.n * 8 ≤ 140737488351232) : D_f13.wp x fun y=>C6 y ⟨false,x.n,x.get⟩ ∧ Ce y:=by
 refine B3 ?_
 simp only [tt_f13]
 refine wN (by simpa [Nat.blt_eq] using h) (wN (by simpa [room] using hn) ⟨⟨Nat.zero_add _,fun i _=>?_⟩,fun e=>?_⟩)
 · simp [M0]
 · simp only [Bool.cond_self,Bool.false_eq_true] at e
theorem Vb (x : Ar TTh) (h : 0 < x.n) (hn : x.n * 128 ≤ 140737488351232) : D_f4o.wp x fun y=>C6 y ⟨false,x.n,x.get⟩ ∧ Ce y:=by
 refine B3 ?_
 simp only [tt_f4o]
 refine wN (by simpa [Nat.blt_eq] using h) (wN (by simpa [room] using hn) ⟨⟨Nat.zero_add _,fun i _=>?_⟩,fun e=>?_⟩)
 · simp [M0]
 · simp only [Bool.cond_self,Bool.false_eq_true] at e
def SM (n : Nat) (i : TIn) : Prop:=Bg i = true ∧ ¬ (15 ≤ i.Op ∧ i.Op ≤ 17 ∧ (n : Int) < i.K)
def codeOk (l : Sl TIn) : Prop:=l.n ≤ 256 ∧ ∀ k,k < l.n → SM l.n (l.get k)
structure Nq (l : Sl TIn) : Prop where
 n : l.n ≤ maxLen
 i : ∀ k,k < l.n → TS (l.get k)
theorem w_f37 (i : TIn) (l : Sl TIn) (hi : TS i) (hl : l.n ≤ 256) : D_f37.wp (i,l) fun y=>y = true ↔ ¬ SM l.n i:=by
 refine of_wp ?_
 simp only [tt_f37]
 refine wC (w_f3h i hi) fun (y : Bool) hy=>?_
 refine AE bnI (fun h=>Oj fun hc=>h (hy.2 hc.1)) fun h=>?_
 have hR:=hy.1 (Classical.byContradiction h)
 refine wC (w_f3i i) fun (z : Bool) hz=>?_
 refine AE hz (fun hj=>?_) fun hj=>BP fun k=>k ⟨hR,fun hh=>hj ⟨hh.1,hh.2.1⟩⟩
 refine De ilI ?_
 rw [Aj (by omega) (by omega)]
 exact ⟨fun h k=>k.2 ⟨hj.1,hj.2,h⟩,fun h=>Classical.byContradiction fun h2=>h ⟨hR,fun hh=>h2 hh.2.2⟩⟩
theorem IY (l m : Sl TIn) (hl : Nq l) (hm : m.n ≤ 256) : D_f6.wp (l,m) fun y=>0 ≤ y ↔ ¬ ∀ k,k < l.n → SM m.n (l.get k):=by
 refine of_wp ?_
 simp only [tt_f6]
 refine K5 (fun k=>(⟨l,m,l.n,(k : Nat)⟩ : X_f6_2)) l.n (fun k=>SM m.n (l.get k)) _ (fun D hJ=>?_) (fun D k hk hD=>?_)
 · simp only [tt_f6_2,BV,Nat.lt_irrefl,decide_false,CW]
   exact ⟨fun h=>absurd h (by decide),fun h=>absurd hJ h⟩
 · simp only [tt_f6_2,BV,hk,decide_true,DA,BL hk,Be,Int.toNat_natCast,CG hk hl.n]
   refine wC (w_f37 _ m (hl.i k hk) hm) fun (y : Bool) hy=>?_
   refine AE hy (fun h=>⟨fun _ k2=>h (k2 k hk),fun _=>Int.natCast_nonneg k⟩) fun h=>hD (Classical.byContradiction h)
theorem w_f3o (l : Sl TIn) (hl : Nq l) : D_f3o.wp l fun y=>y = true ↔ codeOk l:=by
 refine of_wp ?_
 simp only [tt_f3o]
 refine AE ilI (fun h=>BP fun k=>by have:=k.1; omega) fun h=>?_
 have e : D_fm.wp (l,l) fun y=>y = true ↔ ¬ ∀ k,k < l.n → SM l.n (l.get k):=by
  refine of_wp ?_
  simp only [tt_fm]
  refine wC (IY l l hl (by omega)) fun (y : Int) hy=>De leI hy
 refine wC e fun (y : Bool) hy=>?_
 refine De bnI ?_
 rw [hy]
 exact ⟨fun k=>⟨by omega,Classical.byContradiction k⟩,fun k k2=>k2 k.2⟩
def aT (t : TTh) : MT:=⟨t.At,t.Phase,t.Ring,t.Status,t.AG,t.Af,t.Seen.L⟩
theorem HH (l : Sl TIn) {a : Int} (h0 : 0 ≤ a) (h1 : a < l.n) : gI l.L a = l.get a.toNat:=by unfold gI; exact I5 l h0 h1 zI
theorem w_fv (l : Sl TIn) (t : TTh) (hl : Nq l) (hk : 0 ≤ t.AG) : D_fv.wp (l,t) fun y=>y = true ↔ codeOk l ∧ Es l.L (aT t):=by
 refine of_wp ?_
 simp only [tt_fv]
 refine wC (w_f3o l hl) fun (y : Bool) hy=>?_
 refine AE bnI (fun h=>BP fun k=>h (hy.2 k.1)) fun h=>?_
 have hc:=hy.1 (Classical.byContradiction h)
 have a1 : Es l.L (aT t) → t.At ≤ l.n:=fun k=>by have:=k.a1; simpa [aT] using this
 refine AE ilI (fun h=>BP fun k=>absurd k.2.a0 (Int.not_le.2 h)) fun h0=>AE ilI (fun h=>BP fun k=>absurd (a1 k.2) (Int.not_le.2 h)) fun h1 =>
  AE ilI (fun h=>BP fun k=>absurd k.2.st.1 (Int.not_le.2 h)) fun h2=>AE ilI (fun h=>BP fun k=>absurd k.2.st.2 (Int.not_le.2 h)) fun h3 =>
  AE ilI (fun h=>BP fun k=>absurd k.2.ph.1 (Int.not_le.2 h)) fun h4=>AE ilI (fun h=>BP fun k=>absurd k.2.ph.2 (Int.not_le.2 h)) fun h5=>?_
 refine of_wp ?_
 simp only [tt_fv_3]
 have mk : (t.Phase = 0 → t.Ring = 0 ∧ t.AG = 0) → (t.Phase ≠ 0 → t.Status = 0 ∧ t.At < l.n ∧ (l.get t.At.toNat).Op = 17 + t.Phase ∧ (l.get t.At.toNat).C = t.Ring ∧ t.AG < 4611686018427387904) → codeOk l ∧ Es l.L (aT t):=by
  intro p0 p1
  refine ⟨hc,Int.not_lt.1 h0,?_,⟨Int.not_lt.1 h2,Int.not_lt.1 h3⟩,⟨Int.not_lt.1 h4,Int.not_lt.1 h5⟩,p0,fun hp=>?_⟩
  · simpa [aT] using h1
  · obtain ⟨a,b,c,d,e⟩:=p1 hp
    refine ⟨a,by simpa [aT] using b,?_,?_,hk,e⟩
    · show (gI l.L t.At).Op = _; rw [HH l (by omega) b]; exact c
    · show (gI l.L t.At).C = _; rw [HH l (by omega) b]; exact d
 have un : Es l.L (aT t) → t.Phase ≠ 0 → t.Status = 0 ∧ t.At < l.n ∧ (l.get t.At.toNat).Op = 17 + t.Phase ∧ (l.get t.At.toNat).C = t.Ring ∧ t.AG < 4611686018427387904:=by
  intro k hp
  obtain ⟨a,b,c,d,_,e⟩:=k.p1 hp
  have b : t.At < l.n:=by simpa [aT] using b
  change (gI l.L t.At).Op = _ at c
  change (gI l.L t.At).C = _ at d
  rw [HH l (by omega) b] at c d
  exact ⟨a,b,c,d,e⟩
 refine AE ieI (fun hp=>AE ieI (fun hr=>?_) fun hr=>BP fun k=>hr (k.2.p0 hp).1) fun hp=>?_
 · refine De ieI ⟨fun ht=>mk (fun _=>⟨hr,ht⟩) fun h=>absurd hp h,fun k=>(k.2.p0 hp).2⟩
 · refine AE (p:=t.Status ≠ 0) (by rw [bnI,ieI]) (fun hs=>BP fun k=>hs (k.2.p1 hp).1) fun hs=>AE ieI (fun ha=>BP fun k=>by have:=(un k.2 hp).2.1; omega) fun ha=>?_
   refine of_wp ?_
   simp only [tt_fv_7]
   have hw : IntKind.i64.wrap (t.Phase - 1) = t.Phase - 1:=wrap64 (by omega) (by omega)
   refine wN (by rw [ibI]; omega) (wN (by rw [ibI,hw]; omega) ?_)
   have ho : (cond (Nat.beq (Int.toNat (IntKind.i64.wrap (t.Phase - 1))) 0) (18 : Int) (19 : Int)) = 17 + t.Phase:=by
    rw [hw]
    rcases (by omega : t.Phase = 1 ∨ t.Phase = 2) with e | e <;> rw [e] <;> rfl
   rw [ho]
   refine AE ieI (fun e1=>AE ieI (fun e2=>?_) fun e2=>BP fun k=>e2 (un k.2 hp).2.2.2.1) fun e1=>BP fun k=>e1 (un k.2 hp).2.2.1
   exact De ilI ⟨fun ht=>mk (fun h=>absurd h hp) fun _=>⟨Classical.byContradiction hs,by omega,e1,e2,ht⟩,fun k=>(un k.2 hp).2.2.2.2⟩
structure Rx (x : TSo) : Prop where
 s0 : 0 ≤ x.AO
 s1 : x.AO < 18446744073709551616
 l0 : -9223372036854775808 ≤ x.Left
 l1 : x.Left ≤ 9223372036854775807
structure MY (c nr : Int) (i : Nat) (x : TSo) : Prop where
 s1 : x.AO < 9223372036854775808
 Uq : x.AO / 2 % c = i
 free : x.AO % 2 = 0 → x.Value = 0 ∧ x.Left = 0
 held : x.AO % 2 = 1 → 1 ≤ x.Left ∧ x.Left < 2 ^ nr.toNat
theorem w_f3t (c r : Int) : D_f3t.wp (c,r) fun y=>y = true ↔ 1 ≤ c ∧ c ≤ 64 ∧ 1 ≤ r ∧ r ≤ 8:=by
 refine of_wp ?_
 simp only [tt_f3t,TT.wp,leI,Bool.false_eq_true,false_iff]
 omega
theorem JK {r : Int} (h1 : 1 ≤ r) (h8 : r ≤ 8) : shl IntKind.i64 1 r = 2 ^ r.toNat:=by
 rcases (by omega : r = 1 ∨ r = 2 ∨ r = 3 ∨ r = 4 ∨ r = 5 ∨ r = 6 ∨ r = 7 ∨ r = 8) with e | e | e | e | e | e | e | e <;> subst e <;> rfl
theorem w_f22 (i : Nat) (c r : Int) (x : TSo) (hx : Rx x) (hc : 1 ≤ c ∧ c ≤ 64 ∧ 1 ≤ r ∧ r ≤ 8) (hi : (i : Int) < 9223372036854775808) : D_f22.wp ((i : Int),(c,(r,x))) fun y=>y = true ↔ MY c r i x:=by
 refine of_wp ?_
 have h0:=hx.s0
 have hs:=hx.s1
 simp only [tt_f22]
 have hd : Int.tdiv x.AO 2 = x.AO / 2:=Int.tdiv_eq_ediv_of_nonneg h0
 have hw1 : IntKind.u64.wrap (x.AO / 2) = x.AO / 2:=Aj (by omega) (by omega)
 have hw2 : IntKind.u64.wrap c = c:=Aj (by omega) (by omega)
 have hw3 : IntKind.u64.wrap (i : Int) = i:=Aj (by omega) (by omega)
 have hm : Int.tmod (x.AO / 2) c = x.AO / 2 % c:=Int.tmod_eq_emod_of_nonneg (by omega)
 have hm2 : Int.tmod x.AO 2 = x.AO % 2:=Int.tmod_eq_emod_of_nonneg h0
 rw [hd,hw1,hw2,hw3,hm]
 refine AE leI (fun h=>BP fun k=>absurd k.s1 (Int.not_lt.2 h)) fun h=>wN (by rw [bnI,ieI]; omega) (AE (p:=x.AO / 2 % c ≠ i) (by rw [bnI,ieI]) (fun h=>BP fun k=>h k.Uq) fun h2=>?_)
 refine of_wp ?_
 simp only [tt_f22_3]
 rw [hm2]
 have h2:=Classical.byContradiction h2
 refine AE ieI (fun e=>AE ieI (fun e2=>De ieI ⟨fun e3=>⟨by omega,h2,fun _=>⟨e2,e3⟩,fun e4=>by omega⟩,fun k=>(k.free e).2⟩) fun e2=>BP fun k=>e2 (k.free e).1) fun e=>?_
 refine AE leI (fun e2=>wN (by rw [leI]; omega) ?_) fun e2=>BP fun k=>e2 (k.held (by omega)).1
 refine De ilI ?_
 rw [JK hc.2.2.1 hc.2.2.2]
 exact ⟨fun e3=>⟨by omega,h2,fun e4=>absurd e4 e,fun _=>⟨e2,e3⟩⟩,fun k=>(k.held (by omega)).2⟩
def Ox (c r : Int) (l : Sl TSo) : Prop:=(l.n : Int) = c ∧ ∀ i,i < l.n → MY c r i (l.get i)
structure Ux (l : Sl TSo) : Prop where
 n : l.n ≤ maxLen
 x : ∀ i,i < l.n → Rx (l.get i)
 z : Ce l
theorem w_fy (c r : Int) (l : Sl TSo) (hl : Ux l) (hc : 1 ≤ c ∧ c ≤ 64 ∧ 1 ≤ r ∧ r ≤ 8) :
 D_fy.wp (c,(r,l)) fun y=>(Ox c r l ∧ y.2 = 0 ∧ y.1.nil = false ∧ C6 y.1.x.l l ∧ y.1.x.AW = r ∧ Ce y.1.x.l) ∨ (¬ Ox c r l ∧ y.2 = 3 ∧ y.1.nil = true):=by
 refine of_wp ?_
 simp only [tt_fy]
 refine wC (w_f3t c r) fun (y : Bool) hy=>?_
 refine AE bnI (fun h=>absurd (hy.2 hc) h) fun _=>?_
 refine AE (p:=(l.n : Int) ≠ c) (by rw [bnI,ieI]) (fun h=>.inr ⟨fun k=>h k.1,rfl,rfl⟩) fun h=>?_
 have hn:=Classical.byContradiction h
 refine K5 (fun k=>(⟨c,r,l,l,l.n,(k : Nat)⟩ : X_fy_6)) l.n (fun k=>MY c r k (l.get k)) _ (fun D hJ=>?_) (fun D k hk hD=>?_)
 · simp only [tt_fy_6,BV,Nat.lt_irrefl,decide_false,CW]
   refine of_wp ?_
   simp only [tt_fy_11]
   refine wC (Jd l hl.z (by omega)) fun (y : Sl TSo) hy=>?_
   exact .inl ⟨⟨hn,hJ⟩,rfl,rfl,hy.1,rfl,hy.2⟩
 · simp only [tt_fy_6,BV,hk,decide_true,DA,BL hk,Be,Int.toNat_natCast,CG hk hl.n]
   refine wC (w_f22 k c r _ (hl.x k hk) hc (by have:=Iz hl.n; omega)) fun (y : Bool) hy=>?_
   refine AE bnI (fun h=>.inr ⟨fun kk=>h (hy.2 (kk.2 k hk)),rfl,rfl⟩) fun h=>hD (hy.1 (Classical.byContradiction h))
def Oo (c : Int) (x : TSo) (h : Int) (j : Nat) : Prop :=
 (x.AO % 2 = 1 → DE x.Left j = false → x.AO / 2 < h) ∧ (x.AO % 2 = 0 → c ≤ x.AO / 2 → x.AO / 2 - c < h)
def Gg (c tail : Int) (AD : Sl Int) (x : TSo) : Prop:=(x.AO % 2 = 1 → x.AO / 2 < tail) ∧ ∀ j,j < AD.n → Oo c x (AD.get j) j
theorem Tw : ∀ (x : Fin 256) (j : Fin 8),decide (Vm.bits .and IntKind.i64 (shr IntKind.i64 (x.val : Int) (j.val : Int)) 1 = 0) = !DE (x.val : Int) (j.val : Int):=by decide +kernel
theorem OO {x : Int} {j : Nat} (h0 : 0 ≤ x) (h1 : x < 256) (hj : j < 8) : Vm.bits .and IntKind.i64 (shr IntKind.i64 x (j : Int)) 1 = 0 ↔ DE x (j : Int) = false:=by
 have:=Tw ⟨x.toNat,by omega⟩ ⟨j,hj⟩
 simp only [show ((x.toNat : Nat) : Int) = x by omega] at this
 exact decide_eq_true_iff.symm.trans (by rw [this]; simp)
structure Uz (l : Sl Int) : Prop where
 n : l.n ≤ 8
 h : ∀ j,j < l.n → 0 ≤ l.get j ∧ l.get j < 18446744073709551616
theorem LB (x : TSo) (r : TRr) (hx : 0 ≤ x.AO ∧ x.AO < 9223372036854775808) (hl : 0 ≤ x.Left ∧ x.Left < 256) (hh : Uz r.AA.AD) (hm : 0 ≤ r.most ∧ r.most ≤ 64) :
 D_f2.wp (x,r) fun y=>y = true ↔ Gg r.most r.AA.tail r.AA.AD x:=by
 refine B3 ?_
 simp only [tt_f2]
 have hd : Int.tdiv x.AO 2 = x.AO / 2:=Int.tdiv_eq_ediv_of_nonneg hx.1
 have hw1 : IntKind.u64.wrap (x.AO / 2) = x.AO / 2:=Aj (by omega) (by omega)
 have hm2 : Int.tmod x.AO 2 = x.AO % 2:=Int.tmod_eq_emod_of_nonneg hx.1
 rw [hd,hw1,hm2]
 have h5 : (x.AO % 2 = 1 → x.AO / 2 < r.AA.tail) → D_f2_5.wp (⟨x,x.AO / 2,AX (x.AO % 2) 1,r⟩ : X_f2_5) fun y=>y.1 = true ↔ Gg r.most r.AA.tail r.AA.AD x:=by
  intro ht
  refine of_wp ?_
  simp only [tt_f2_5]
  refine K5 (fun k=>(⟨x,x.AO / 2,AX (x.AO % 2) 1,r.AA.AD.n,(k : Nat),r⟩ : X_f2_6)) r.AA.AD.n (fun k=>Oo r.most x (r.AA.AD.get k) k) _ (fun D hJ=>?_) (fun D k hk hD=>?_)
  · simp only [tt_f2_6,BV,Nat.lt_irrefl,decide_false,CW]
    exact wN (by simp) (Oj ⟨ht,hJ⟩)
  · have hn:=hh.n
    have hg:=hh.h k hk
    have e2 : IntKind.i64.wrap ((k : Int) + 1) = ((k + 1 : Nat) : Int):=by rw [wrap64] <;> omega
    simp only [tt_f2_6,BV,hk,decide_true,DA,BL hk,Be,Int.toNat_natCast,Nat.zero_add]
    refine wN (by simp) ?_
    have hb:=OO hl.1 hl.2 (Nat.lt_of_lt_of_le hk hn)
    have h12 : Oo r.most x (r.AA.AD.get k) k → (D_f2_12 D).wp (⟨x,x.AO / 2,AX (x.AO % 2) 1,r.AA.AD.n,k,r⟩ : X_f2_12) fun y=>y.1 = true ↔ Gg r.most r.AA.tail r.AA.AD x:=fun hc=>by
     refine of_wp ?_
     simp only [tt_f2_12,e2]
     exact hD hc
    refine AE ieI (fun ho=>?_) fun ho=>?_
    · have nh : ∀ {t e : TT Tryz.prog RR_f2} {Q},e.wp Q → (TT.ite (!(AX (x.AO % 2) 1)) t e).wp Q:=fun h=>BM (fun k=>by rw [bnI,ieI] at k; exact absurd ho k) fun _=>h
      refine wN (by rw [leI]; omega) (AE (ieI.trans hb) (fun hz=>AE leI (fun hle=>wN (by simp) (BP fun kk=>?_)) fun hle=>nh (h12 ⟨fun _ _=>by omega,fun e=>by omega⟩)) fun hz=>nh (h12 ⟨fun _ e=>absurd e hz,fun e=>by omega⟩))
      have:=(kk.2 k hk).1 ho hz
      omega
    · refine BM (fun _=>AE leI (fun h1=>?_) fun h1=>h12 ⟨fun e=>absurd e ho,fun _ e=>absurd e h1⟩) fun k=>absurd (bnI.2 fun e=>ho (ieI.1 e)) k
      rw [Aj (by omega) (by omega)]
      refine AE leI (fun h2=>wN (by simp) (BP fun kk=>?_)) fun h2=>h12 ⟨fun e=>absurd e ho,fun _ _=>by omega⟩
      have:=(kk.2 k hk).2 (by omega) h1
      omega
 refine AE ieI (fun ho=>AE leI (fun ht=>BP fun k=>absurd (k.1 ho) (Int.not_lt.2 ht)) fun ht=>h5 fun _=>by omega) fun ho=>h5 fun e=>absurd e ho
structure Uy (s : TRs) : Prop where
 t0 : 0 ≤ s.Aq
 t1 : s.Aq < 18446744073709551616
 hn : s.AY.n ≤ maxLen
 hh : ∀ j,j < s.AY.n → 0 ≤ s.AY.get j ∧ s.AY.get j < 18446744073709551616
 hz : Ce s.AY
 ss : Ux s.Ao
structure Rh (c : TRg) (s : TRs) : Prop where
 sl : Ox c.Cn c.AU s.Ao
 rd : (s.AY.n : Int) = c.AU
 tb : s.Aq < 4611686018427387904
 h0 : ∀ j,j < s.AY.n → s.AY.get j ≤ s.Aq ∧ s.Aq - s.AY.get j ≤ c.Cn
 st : ∀ i,i < s.Ao.n → Gg c.Cn s.Aq s.AY (s.Ao.get i)
theorem CY {c : TRg} (h : A1 c = true) : 1 ≤ c.Cn ∧ c.Cn ≤ 64 ∧ 1 ≤ c.AU ∧ c.AU ≤ 8:=by
 simp only [A1,decide_eq_true_eq] at h; omega
theorem Ni {c r : Int} {i : Nat} {x : TSo} (h : MY c r i x) (h8 : r ≤ 8) : 0 ≤ x.Left ∧ x.Left < 256:=by
 rcases (by omega : x.AO % 2 = 0 ∨ x.AO % 2 = 1) with e | e
 · have:=h.free e; omega
 · have:=h.held e
   have h2 : (2 : Int) ^ r.toNat ≤ 2 ^ 8:=by exact_mod_cast Nat.pow_le_pow_right (by decide) (by omega : r.toNat ≤ 8)
   omega
structure P7 (c : TRg) (r : TRr) : Prop where
 sn : r.s.nil = false
 rd : r.s.x.AW = c.AU
 ms : r.most = c.Cn
 hz : Ce r.AA.AD
 lz : Ce r.s.x.l
 hn : (r.AA.AD.n : Int) = c.AU
 ln : (r.s.x.l.n : Int) = c.Cn
def aR (r : TRr) : MR:=⟨r.AA.tail,r.AA.AD.L,r.closed,r.s.x.l.L⟩
def K7 (s : TRs) : MR:=⟨s.Aq,s.AY.L,s.Aw,s.Ao.L⟩
theorem w_f46 (c : TRg) : D_f46.wp c fun y=>y = true ↔ (c.Kind = 1 ∧ c.AU = 1 ∨ c.Kind = 2):=by
 refine of_wp ?_
 simp only [tt_f46,TT.wp,ieI,Bool.false_eq_true,true_iff,false_iff]
 omega
theorem w_f2u (x : Int) (h0 : 0 ≤ x) (h1 : x < 9223372036854775808) : D_f2u.wp x fun y=>y = 2 * x:=by
 refine of_wp ?_
 simp only [tt_f2u]
 exact Aj (by omega) (by omega)
def HI (i : Nat) : TSo:=⟨2 * (i : Int),0,0⟩
theorem w_f1w (c r : Int) (hi : 1 ≤ c ∧ c ≤ 64 ∧ 1 ≤ r ∧ r ≤ 8) :
 D_f1w.wp (c,r) fun y=>y.2 = 0 ∧ y.1.nil = false ∧ C6 y.1.x.l ⟨false,c.toNat,HI⟩ ∧ y.1.x.AW = r ∧ Ce y.1.x.l:=by
 refine of_wp ?_
 simp only [tt_f1w]
 refine wC (w_f3t c r) fun (y : Bool) hy=>?_
 refine AE bnI (fun h=>absurd (hy.2 hi) h) fun _=>?_
 obtain ⟨n,rfl⟩ : ∃ n : Nat,c = n:=⟨c.toNat,by omega⟩
 simp only [Int.toNat_natCast]
 refine wN (by simp [upto,room,Bd]; omega) (wN (by simp) ?_)
 have hl:=by
  refine CU (tt:=tt_f1w_5) (fun x : X_f1w_5=>x.LQ = n ∧ ∃ k : Nat,x.Gk = k ∧ k ≤ n ∧ x.GG.l.nil = false ∧ x.GG.l.n = n ∧ x.GG.AW = r ∧ (∀ i,i < n → x.GG.l.get i = if i < k then HI i else ⟨0,0,0⟩)) (fun x=>(n - x.Gk).toNat)
   (fun _ y=>y.2 = 0 ∧ y.1.nil = false ∧ C6 y.1.x.l ⟨false,n,HI⟩ ∧ y.1.x.AW = r ∧ Ce y.1.x.l) (fun D x hI hD=>?_) (x:=(⟨n,0,⟨⟨false,n,fun _=>⟨0,0,0⟩⟩,r⟩⟩ : X_f1w_5)) ⟨rfl,0,rfl,by omega,rfl,rfl,rfl,fun i _=>by simp⟩
  obtain ⟨e0,k,e1,hk,hz,hn,hr,hg⟩:=hI
  obtain ⟨q21,q22,⟨⟨z,m,g⟩,rr⟩⟩:=x
  simp only at e0 e1 hz hn hr hg hD
  subst e0 e1 hz hn hr
  simp only [tt_f1w_5]
  refine AE ilI (fun h=>?_) fun h=>?_
  · have hkm : k < m:=by omega
    rw [Aj (by omega) (by omega)]
    refine wC (w_f2u k (by omega) (by omega)) fun (y : Int) hy=>?_
    subst hy
    refine wN (BL hkm) (wN (by simp) (wN (by simp) ?_))
    have e2 : IntKind.i64.wrap ((k : Int) + 1) = ((k + 1 : Nat) : Int):=by rw [wrap64] <;> omega
    rw [e2]
    refine hD _ ⟨rfl,k + 1,rfl,hkm,rfl,rfl,rfl,fun i hi=>?_⟩ (by simp only; omega)
    simp only [Int.toNat_natCast,Nat.zero_add]
    by_cases e : i = k
    · subst e
      have:=hg i hi
      simp only [this,Nat.lt_irrefl,if_false,Nat.beq_refl,cond_true,HI]
      rw [if_pos (by omega)]
    · have hb : Nat.beq i k = false:=Bool.eq_false_iff.2 fun h=>e (Nat.eq_of_beq_eq_true h)
      simp only [hb,cond_false,hg i hi]
      by_cases e3 : i < k
      · rw [if_pos e3,if_pos (by omega)]
      · rw [if_neg e3,if_neg (by omega)]
  · have : k = m:=by omega
    subst this
    refine ⟨rfl,rfl,⟨rfl,fun i hi=>?_⟩,rfl,fun e=>by cases e⟩
    show g i = HI i
    rw [hg i hi,if_pos hi]
 exact hl
theorem JL (n : Nat) (b : Bool) : (⟨b,n,fun _=>(0 : Int)⟩ : Sl Int).L = List.replicate n 0:=by
 apply List.ext_getElem
 · simp
 · intro i h1 h2; simp [Sl.GP]
theorem w_f2t (c : TRg) (hc : A1 c = true) : D_f2t.wp c fun y=>y.2 = 0 ∧ y.1.nil = false ∧ P7 c y.1.x ∧ aR y.1.x = GS c:=by
 have hf:=CY hc
 refine of_wp ?_
 simp only [tt_f2t]
 refine wC (w_f1w c.Cn c.AU hf) fun (y : Bx TSs × Int) hy=>?_
 obtain ⟨⟨bn,⟨sl,rd⟩⟩,er⟩:=y
 obtain ⟨rfl,rfl,hs,rfl,hz⟩:=hy
 refine AE (p:=(0 : Int) ≠ 0) (by rw [bnI,ieI]) (fun h=>absurd rfl h) fun _=>?_
 refine wC (w_f46 c) fun (z : Bool) hz'=>?_
 refine AE bnI (fun h=>absurd (hz'.2 (by simp only [A1,decide_eq_true_eq] at hc; omega)) h) fun _=>?_
 refine of_wp ?_
 simp only [tt_f2t_4]
 have hroom : c.AU.toNat * 8 ≤ 140737488351232:=by omega
 refine wN (by simp [upto,room,Bd,hroom]; omega) ⟨rfl,rfl,⟨rfl,rfl,Aj (by omega) (by omega),fun e=>by (cases e),hz,by show ((c.AU.toNat : Nat) : Int) = _; omega,by show (sl.n : Int) = _; rw [hs.n]; show ((c.Cn.toNat : Nat) : Int) = _; omega⟩,?_⟩
 show (⟨0,_,false,sl.L⟩ : MR) = _
 rw [hs.L,JL]
 rfl
theorem w_fc (c : TRg) (s : TRs) (hc : A1 c = true) (hs : Uy s) :
 D_fc.wp (c,s) fun y=>(Rh c s ∧ y.2 = 0 ∧ y.1.nil = false ∧ P7 c y.1.x ∧ aR y.1.x = K7 s) ∨ (¬ Rh c s ∧ y.2 = 3):=by
 have hf:=CY hc
 refine of_wp ?_
 simp only [tt_fc]
 refine wC (w_f2t c hc) fun (y : Bx TRr × Int) hy=>?_
 obtain ⟨⟨bn,r⟩,er⟩:=y
 obtain ⟨h0,h1,hw,_⟩:=hy
 simp only at h0 h1 hw
 subst h0 h1
 refine AE (p:=(0 : Int) ≠ 0) (by rw [bnI,ieI]) (fun h=>absurd rfl h) fun _=>?_
 refine wC (w_fy c.Cn c.AU s.Ao hs.ss hf) fun (z : Bx TSs × Int) hz=>?_
 obtain ⟨⟨zn,⟨zl,zr⟩⟩,ze⟩:=z
 rcases hz with ⟨hsl,he,hzn,hsame,hrd,hlz⟩ | ⟨hno,he,_⟩
 · simp only at he hzn hsame hrd hlz
   subst he hzn hrd
   refine AE (p:=(0 : Int) ≠ 0) (by rw [bnI,ieI]) (fun h=>absurd rfl h) fun _=>?_
   refine AE (p:=(s.AY.n : Int) ≠ c.AU) (by rw [bnI,ieI]) (fun h=>.inr ⟨fun k=>h k.rd,rfl⟩) fun h1=>AE leI (fun h=>.inr ⟨fun k=>absurd k.tb (Int.not_lt.2 h),rfl⟩) fun h2=>?_
   have h1:=Classical.byContradiction h1
   refine wN rfl ?_
   refine of_wp ?_
   simp only [tt_fc_7]
   refine wC (Hh s.AY hs.hz (by omega)) fun (hd : Sl Int) hhd=>?_
   obtain ⟨hsm,hhz⟩:=hhd
   have t0:=hs.t0
   have hnn : hd.n = s.AY.n:=hsm.n
   rw [hnn]
   refine K5 (fun k=>(⟨s,s.AY.n,(k : Nat),⟨⟨s.Aq,hd⟩,⟨false,⟨zl,c.AU⟩⟩,r.most,s.Aw⟩⟩ : X_fc_9)) s.AY.n (fun j=>s.AY.get j ≤ s.Aq ∧ s.Aq - s.AY.get j ≤ c.Cn) _ (fun D hJ=>?_) (fun D k hk hD=>?_)
   · simp only [tt_fc_9,BV,Nat.lt_irrefl,decide_false,CW]
     refine wN (by simp) (of_wp ?_)
     simp only [tt_fc_14]
     refine K5 (fun k=>(⟨s.Ao,s.Ao.n,(k : Nat),⟨⟨s.Aq,hd⟩,⟨false,⟨zl,c.AU⟩⟩,r.most,s.Aw⟩⟩ : X_fc_15)) s.Ao.n (fun i=>Gg c.Cn s.Aq s.AY (s.Ao.get i)) _ (fun D hJ2=>?_) (fun D k hk hD=>?_)
     · simp only [tt_fc_15,BV,Nat.lt_irrefl,decide_false,CW]
       refine .inl ⟨⟨hsl,h1,by omega,hJ,hJ2⟩,rfl,rfl,⟨rfl,rfl,hw.ms,hhz,hlz,by show (hd.n : Int) = _; omega,by show (zl.n : Int) = _; rw [hsame.n]; exact hsl.1⟩,?_⟩
       · show (⟨s.Aq,hd.L,s.Aw,zl.L⟩ : MR) = _
         rw [hsm.L,hsame.L]; rfl
     · have hx:=hs.ss.x k hk
       have hp:=hsl.2 k hk
       simp only [tt_fc_15,BV,hk,decide_true,DA,BL hk,Be,Int.toNat_natCast,CG hk hs.ss.n]
       have hok : Uz hd:=⟨by omega,fun j hj=>by rw [hsm.g j (by omega)]; exact hs.hh j (by omega)⟩
       refine wC (LB _ ⟨⟨s.Aq,hd⟩,⟨false,⟨zl,c.AU⟩⟩,r.most,s.Aw⟩ ⟨hx.s0,hp.s1⟩ (Ni hp hf.2.2.2) hok (by rw [hw.ms]; omega)) fun (y : Bool) hy=>?_
       have heq : Gg r.most s.Aq hd (s.Ao.get k) ↔ Gg c.Cn s.Aq s.AY (s.Ao.get k):=by
        rw [hw.ms]
        unfold Gg
        rw [hsm.n]
        exact and_congr_right fun _=>⟨fun h j hj=>by have:=h j hj; rwa [hsm.g j hj] at this,fun h j hj=>by rw [hsm.g j hj]; exact h j hj⟩
       rw [heq] at hy
       exact AE bnI (fun h=>.inr ⟨fun kk=>h (hy.2 (kk.st k hk)),rfl⟩) fun h=>hD (hy.1 (Classical.byContradiction h))
   · have hg:=hs.hh k hk
     have hkd : k < hd.n:=by omega
     simp only [tt_fc_9,BV,hk,decide_true,DA,BL hkd,Be,Int.toNat_natCast,Nat.zero_add,hsm.g k hk]
     refine wN (by simp) (AE ilI (fun h=>wN (by simp) (.inr ⟨fun kk=>?_,rfl⟩)) fun h=>?_)
     · have:=(kk.h0 k hk).1; omega
     · rw [Aj (by omega) (by omega),hw.ms]
       refine AE ilI (fun h=>wN (by simp) (.inr ⟨fun kk=>?_,rfl⟩)) fun h=>?_
       · have:=(kk.h0 k hk).2; omega
       · refine of_wp ?_
         simp only [tt_fc_13,CG hk hs.hn]
         rw [← hw.ms]
         exact hD ⟨by omega,by omega⟩
 · simp only at he
   subst he
   exact AE (p:=(3 : Int) ≠ 0) (by rw [bnI,ieI]) (fun _=>.inr ⟨fun k=>hno k.sl,rfl⟩) fun h=>absurd (by decide) h
theorem T1 {X R : Type} {D : AQ X R} {x x' : X} {Q : R → Prop} (h : D.wp x' Q) (e : x = x') : D.wp x Q:=e ▸ h
theorem Fw {α β γ : Type} {s : Sl α} {t : Sl β} {f : α → γ} {g : β → γ} (hn : s.n = t.n) (h : ∀ i,i < t.n → f (s.get i) = g (t.get i)) : s.L.map f = t.L.map g:=by
 apply List.ext_getElem
 · simp [hn]
 · intro i h1 h2
   simp only [List.getElem_map,Sl.GP]
   exact h i (by simpa using h2)
def snoc {α : Type} (s : Sl α) (y : α) : Sl α:=⟨false,s.n + 1,fun i=>cond (Nat.blt i s.n) (s.get i) y⟩
def Ii {α : Type} (s : Sl α) (k : Nat) (y : α) : Sl α:=⟨s.nil,s.n,fun i=>cond (Nat.beq i k) y (s.get i)⟩
theorem Si {i n : Nat} (h : i < n) : Nat.blt i n = true:=by rw [Nat.blt_eq]; exact h
theorem Sj (n : Nat) : Nat.blt n n = false:=Bool.eq_false_iff.2 fun h=>by rw [Nat.blt_eq] at h; omega
theorem JE {i k : Nat} (h : i ≠ k) : Nat.beq i k = false:=Bool.eq_false_iff.2 fun e=>h (Nat.eq_of_beq_eq_true e)
theorem Hm {α : Type} {s : Sl α} {y : α} {i : Nat} (h : i < s.n) : (snoc s y).get i = s.get i:=by simp [snoc,Si h]
theorem Hn {α : Type} {s : Sl α} {y : α} : (snoc s y).get s.n = y:=by simp [snoc,Sj]
theorem Pb {α : Type} {s : Sl α} {y : α} {i k : Nat} (h : i ≠ k) : (Ii s k y).get i = s.get i:=by simp [Ii,JE h]
theorem Pc {α : Type} {s : Sl α} {y : α} {k : Nat} : (Ii s k y).get k = y:=by simp [Ii]
structure Fz (y p : TPg) : Prop where
 r : C6 y.AJ p.AJ
 rz : Ce y.AJ
 n : y.AB.n = p.AB.n
 t : ∀ t,t < p.AB.n → C6 (y.AB.get t) (p.AB.get t) ∧ Ce (y.AB.get t)
theorem Fz.same {y p : TPg} (h : Fz y p) : aP y = aP p:=by
 unfold aP
 rw [h.r.L,Fw h.n fun i hi=>(h.t i hi).1.L]
theorem C6.Nq {y x : Sl TIn} (h : C6 y x) (hx : Nq x) : Nq y:=⟨h.n ▸ hx.n,fun k hk=>by rw [h.g k (h.n ▸ hk)]; exact hx.i k (h.n ▸ hk)⟩
theorem Fz.Gm {y p : TPg} (h : Fz y p) (hp : Gm p) : Gm y where
 rn:=h.r.n ▸ hp.rn
 tn:=h.n ▸ hp.tn
 ln t ht:=by rw [(h.t t (h.n ▸ ht)).1.n]; exact hp.ln t (h.n ▸ ht)
 ins t ht k hk:=by
  have:=(h.t t (h.n ▸ ht)).1
  rw [this.g k (this.n ▸ hk)]; exact hp.ins t (h.n ▸ ht) k (this.n ▸ hk)
 rz:=h.rz
 lz t ht:=(h.t t (h.n ▸ ht)).2
theorem w_fz (p : TPg) (hp : Gm p) (hP : DP (aP p)) : D_fz.wp p fun y=>Fz y p:=by
 obtain ⟨_,h8,hr8,_,hl⟩:=Bc hP
 refine of_wp ?_
 simp only [tt_fz]
 refine wC (ME p.AJ hp.rz (by omega)) fun (y : Sl TRg) hy=>?_
 refine CU (tt:=tt_fz_3) (fun x : X_fz_3=>x.Rn = p.AB ∧ x.Nf = p.AB.n ∧ ∃ k : Nat,x.HR = k ∧ k ≤ p.AB.n ∧ x.BG.AJ = y ∧ x.BG.AB.n = k ∧ ∀ t,t < k → C6 (x.BG.AB.get t) (p.AB.get t) ∧ Ce (x.BG.AB.get t))
  (fun x=>(p.AB.n - x.HR).toNat) (fun _ y=>Fz y p) (fun D x hI hD=>?_) ⟨rfl,rfl,0,rfl,by omega,rfl,rfl,fun t ht=>by omega⟩
 obtain ⟨e0,e1,k,e2,hk,e3,hn,hg⟩:=hI
 obtain ⟨q11,q12,q13,m2,⟨mr,mt⟩⟩:=x
 simp only at e0 e1 e2 e3 hn hg hD
 subst e0 e1 e2 e3 hn
 simp only [tt_fz_3]
 refine AE ilI (fun h=>?_) fun h=>?_
 · have hkm : mt.n < p.AB.n:=by omega
   refine wN (BL hkm) ?_
   rw [Int.toNat_natCast]
   refine wC (LI (p.AB.get mt.n) (hp.lz _ hkm) (by have:=(hl _ hkm).1; omega)) fun (z : Sl TIn) hz=>?_
   refine wN (by simp [room]; omega) ?_
   rw [CG hkm hp.tn]
   refine T1 (x':=⟨p.AB,p.AB.n,((mt.n + 1 : Nat) : Int),m2,⟨mr,snoc mt z⟩⟩) (hD _ ⟨rfl,rfl,mt.n + 1,rfl,hkm,rfl,rfl,fun t ht=>?_⟩ (by simp only; omega)) ?_
   · by_cases e : t = mt.n
     · subst e; simp only [Hn]; exact hz
     · have : t < mt.n:=by omega
       simp only [Hm this]; exact hg t this
   · refine congrArg (fun g=>X_fz_3.mk p.AB p.AB.n ((mt.n + 1 : Nat) : Int) m2 ⟨mr,⟨false,mt.n + 1,g⟩⟩) (funext fun i=>?_)
     cases Nat.blt i mt.n <;> rfl
 · exact ⟨hy.1,hy.2,by simp only; omega,fun t ht=>hg t (by omega)⟩
structure Dq (b : Nat) (t : TTh) : Prop where
 k0 : 0 ≤ t.AG
 k1 : t.AG < 18446744073709551616
 rg : ∀ j,0 ≤ t.Af j ∧ t.Af j < 18446744073709551616
 sz : Ce t.Seen
 sb : t.Seen.n ≤ b
theorem OQ (b : Nat) : Dq b ⟨0,0,0,0,0,fun _=>0,⟨true,0,fun _=>0⟩⟩:=⟨by decide,by decide,fun _=>⟨Int.le_refl 0,(by decide : (0 : Int) < 18446744073709551616)⟩,fun _=>rfl,Nat.zero_le _⟩
structure Wz (p : TPg) (b : Nat) (f : TFa) : Prop where
 cp : Fz f.p p
 tn : f.threads.n = p.AB.n
 tw : ∀ t,t < f.threads.n → Dq b (f.threads.get t)
 rn : f.rings.n = p.AJ.n
 rw : ∀ i,i < f.rings.n → (f.rings.get i).nil = false ∧ P7 (p.AJ.get i) (f.rings.get i).x
def aF (f : TFa) : MS:=⟨f.threads.L.map aT,f.rings.L.map fun r=>aR r.x,f.now,f.reads,f.ended⟩
def aS (s : TSt) : MS:=⟨s.AB.L.map aT,s.AJ.L.map K7,s.FD,s.Reads,s.CF⟩
theorem rg_of {p : TPg} (hP : DP (aP p)) {i : Nat} (h : i < p.AJ.n) : A1 (p.AJ.get i) = true:=(Bc hP).2.2.2.1 _ (Sl.CZ.2 ⟨i,h,rfl⟩)
theorem w_f1h (p : TPg) (hp : Gm p) (b : Nat) :
 D_f1h.wp p fun y=>(DP (aP p) ∧ y.2 = 0 ∧ y.1.nil = false ∧ Wz p b y.1.x ∧ aF y.1.x = Eo (aP p)) ∨ (¬ DP (aP p) ∧ y.2 = 1 ∧ y.1.nil = true):=by
 refine of_wp ?_
 simp only [tt_f1h]
 refine wC (w_f3n p hp) fun (y : Bool) hy=>?_
 refine AE bnI (fun h=>.inr ⟨fun k=>h (hy.2 k),rfl,rfl⟩) fun h=>?_
 have hP:=hy.1 (Classical.byContradiction h)
 obtain ⟨_,h8,hr8,_,hl⟩:=Bc hP
 refine wC (w_fz p hp hP) fun (q : TPg) hq=>?_
 refine wN (by simp [upto,room,Bd]; omega) ?_
 rw [Int.toNat_natCast]
 refine CU (tt:=tt_f1h_5) (fun x : X_f1h_5=>x.LQ = p.AJ ∧ x.Gk = p.AJ.n ∧ ∃ k : Nat,x.Im = k ∧ k ≤ p.AJ.n ∧ x.B8.p = q ∧ x.B8.threads = ⟨false,p.AB.n,fun _=>⟨0,0,0,0,0,fun _=>0,⟨true,0,fun _=>0⟩⟩⟩ ∧ x.B8.now = 0 ∧ x.B8.reads = 0 ∧ x.B8.ended = false ∧
  x.B8.rings.n = k ∧ ∀ i,i < k → (x.B8.rings.get i).nil = false ∧ P7 (p.AJ.get i) (x.B8.rings.get i).x ∧ aR (x.B8.rings.get i).x = GS (p.AJ.get i))
  (fun x=>(p.AJ.n - x.Im).toNat) (fun _ y=>(DP (aP p) ∧ y.2 = 0 ∧ y.1.nil = false ∧ Wz p b y.1.x ∧ aF y.1.x = Eo (aP p)) ∨ (¬ DP (aP p) ∧ y.2 = 1 ∧ y.1.nil = true)) (fun D x hI hD=>?_) ⟨rfl,rfl,0,rfl,by omega,rfl,rfl,rfl,rfl,rfl,rfl,fun t ht=>by omega⟩
 obtain ⟨e0,e1,k,e2,hk,e3,e4,e5,e6,e7,hn,hg⟩:=hI
 obtain ⟨q21,q22,q23,⟨mp,mt,mr,mn,md,me⟩⟩:=x
 simp only at e0 e1 e2 e3 e4 e5 e6 e7 hn hg hD
 subst e0 e1 e2 e3 e4 e5 e6 e7 hn
 simp only [tt_f1h_5]
 refine AE ilI (fun h=>?_) fun h=>?_
 · have hkm : mr.n < p.AJ.n:=by omega
   refine wN (BL hkm) ?_
   rw [Int.toNat_natCast]
   refine wC (w_f2t (p.AJ.get mr.n) (rg_of hP hkm)) fun (z : Bx TRr × Int) hz=>?_
   refine wN (by simp [room]; omega) ?_
   rw [CG hkm hp.rn]
   refine T1 (x':=⟨p.AJ,p.AJ.n,((mr.n + 1 : Nat) : Int),⟨mp,_,snoc mr z.1,0,0,false⟩⟩) (hD _ ⟨rfl,rfl,mr.n + 1,rfl,hkm,rfl,rfl,rfl,rfl,rfl,rfl,fun t ht=>?_⟩ (by simp only; omega)) ?_
   · by_cases e : t = mr.n
     · subst e; simp only [Hn]; exact ⟨hz.2.1,hz.2.2⟩
     · have : t < mr.n:=by omega
       simp only [Hm this]; exact hg t this
   · refine congrArg (fun g=>X_f1h_5.mk p.AJ p.AJ.n ((mr.n + 1 : Nat) : Int) ⟨mp,_,⟨false,mr.n + 1,g⟩,0,0,false⟩) (funext fun i=>?_)
     cases Nat.blt i mr.n <;> rfl
 · have hrn : mr.n = p.AJ.n:=by omega
   refine .inl ⟨hP,rfl,rfl,⟨hq,rfl,fun t _=>OQ b,hrn,fun i hi=>⟨(hg i hi).1,(hg i hi).2.1⟩⟩,?_⟩
   unfold aF Eo
   simp only [MS.mk.injEq,and_true]
   refine ⟨?_,?_⟩
   · simp only [aP,List.map_map]
     exact Fw rfl fun i _=>rfl
   · exact Fw hrn fun i hi=>(hg i (hrn ▸ hi)).2.2
theorem Gm.c {p : TPg} (h : Gm p) {t : Nat} (ht : t < p.AB.n) : Nq (p.AB.get t):=⟨h.ln t ht,h.ins t ht⟩
theorem Mt {p : TPg} (hP : DP (aP p)) {t : Nat} (ht : t < p.AB.n) : codeOk (p.AB.get t):=by
 obtain ⟨h1,h2⟩:=(Bc hP).2.2.2.2 t ht
 refine ⟨h1,fun k hk=>?_⟩
 have:=GK (h2 k hk)
 exact ⟨this.1,fun hh=>by have:=this.2.1 ⟨hh.1,hh.2.1⟩; omega⟩
theorem Co {P : Program} {R : Type} {p : Prop} {t : TT P R} {Q : R → Prop} (h : t.wp Q) : (TT.side p t).wp Q:=h
theorem FH (r : TRr) : D_f1r.wp r fun y=>y = r.AA.tail:=B3 rfl
theorem W4 (j : Int) (c : TRc) : D_fw.wp (j,c) fun y=>y = true ↔ 0 ≤ j ∧ j < c.AD.n:=by
 refine B3 ?_
 simp only [tt_fw]
 exact AE leI (fun h=>wN (by simp) (De ilI ⟨fun k=>⟨h,k⟩,fun k=>k.2⟩)) fun h=>BP fun k=>h k.1
theorem JH (j : Int) (r : TRr) (h0 : 0 ≤ j) (h1 : j < r.AA.AD.n) : D_fq.wp (j,r) fun y=>y = r.AA.AD.get j.toNat:=by
 refine B3 ?_
 simp only [tt_fq]
 refine wC (W4 j r.AA) fun (y : Bool) hy=>?_
 refine AE bnI (fun h=>absurd (hy.2 ⟨h0,h1⟩) h) fun _=>of_wp ?_
 simp only [tt_fq_3,Nat.zero_add]
 exact wN (by rw [ibI]; exact ⟨h0,h1⟩) (wN (by simp) (wN (by simp) rfl))
theorem Tz {t : TTh} {y : Sl Int} (h : C6 y t.Seen) : aT ⟨t.At,t.Phase,t.Ring,t.Status,t.AG,t.Af,y⟩ = aT t:=by
 simp only [aT,h.L]
theorem NM (x : TSs) (h : 0 < x.l.n) (hn : x.l.n * 24 ≤ 140737488351232) : D_f24.wp x fun y=>C6 y x.l ∧ Ce y:=by
 refine B3 ?_
 simp only [tt_f24]
 refine wC (Je ⟨x.l.n,x.l.get⟩ h hn) fun (y : Sl TSo) hy=>wN (by simp) ⟨⟨hy.1.n,hy.1.g⟩,hy.2⟩
theorem Hf (c : TRg) (r : TRr) (hc : A1 c = true) (h : P7 c r) : D_f1u.wp r fun y=>K7 y = aR r ∧ Ce y.AY ∧ Ce y.Ao:=by
 have hf:=CY hc
 have hn:=h.hn
 have ln:=h.ln
 refine B3 ?_
 simp only [tt_f1u]
 refine wN (by simp [h.sn]) ?_
 refine wC (Hi ⟨r.AA.AD.n,r.AA.AD.get⟩ (by show 0 < r.AA.AD.n; omega) (by show r.AA.AD.n * 8 ≤ _; omega)) fun (y : Sl Int) hy=>?_
 refine wC (NM r.s.x (by omega) (by omega)) fun (z : Sl TSo) hz=>wN (by simp [h.sn]) (Co (wN (by simp) ?_))
 have e : y.L = r.AA.AD.L:=hy.1.L
 refine ⟨?_,hy.2,hz.2⟩
 show (⟨r.AA.tail,y.L,r.closed,z.L⟩ : MR) = _
 rw [e,hz.1.L]; rfl
structure WZ (b : Nat) (s : TSt) : Prop where
 ts : ∀ t,t < s.AB.n → Dq b (s.AB.get t)
 rs : ∀ i,i < s.AJ.n → Ce (s.AJ.get i).AY ∧ Ce (s.AJ.get i).Ao
theorem Vp (p : TPg) (b : Nat) (f : TFa) (hb : b * 8 ≤ 140737488351232) (hP : DP (aP p)) (h : Wz p b f) : D_f4l.wp f fun y=>aS y = aF f ∧ WZ b y:=by
 obtain ⟨h1,h8,hr8,_,hl⟩:=Bc hP
 have htn:=h.tn
 have hrn:=h.rn
 refine B3 ?_
 simp only [tt_f4l]
 refine wC (Vb ⟨f.threads.n,f.threads.get⟩ (by show 0 < f.threads.n; omega) (by show f.threads.n * 128 ≤ _; omega)) fun (y : Sl TTh) hy=>wN (by simp) (wN (by simp) ?_)
 have yn : y.n = f.threads.n:=hy.1.n
 have yg : ∀ i,i < f.threads.n → y.get i = f.threads.get i:=hy.1.g
 refine CU (tt:=tt_f4l_5) (fun x : X_f4l_5=>x.TH = f.threads.n ∧ x.Ah = f ∧ ∃ k : Nat,x.UO = k ∧ k ≤ f.threads.n ∧ x.Fe.AJ = ⟨true,0,fun _=>⟨0,⟨true,0,fun _=>0⟩,false,⟨true,0,fun _=>⟨0,0,0⟩⟩⟩⟩ ∧ x.Fe.FD = f.now ∧ x.Fe.Reads = f.reads ∧ x.Fe.CF = f.ended ∧
  x.Fe.AB.n = f.threads.n ∧ ∀ t,t < f.threads.n → aT (x.Fe.AB.get t) = aT (f.threads.get t) ∧ Ce (x.Fe.AB.get t).Seen ∧ (x.Fe.AB.get t).Seen.n ≤ b)
  (fun x=>(f.threads.n - x.UO).toNat) (fun _ y=>aS y.1 = aF f ∧ WZ b y.1) (fun D x hI hD=>?_)
  ⟨by rw [← yn],rfl,0,rfl,Nat.zero_le _,rfl,rfl,rfl,rfl,yn,fun t ht=>by show aT (y.get t) = _ ∧ Ce (y.get t).Seen ∧ (y.get t).Seen.n ≤ b; rw [yg t ht]; exact ⟨rfl,(h.tw t ht).sz,(h.tw t ht).sb⟩⟩
 obtain ⟨e0,e1,k,e4,hk,e5,e6,e7,e8,hn,hg⟩:=hI
 obtain ⟨q29,q30,o0,⟨mt,mr,mn,md,me⟩⟩:=x
 simp only at e0 e1 e4 e5 e6 e7 e8 hn hg hD
 subst e0 e1 e4 e5 e6 e7 e8
 simp only [tt_f4l_5]
 refine AE ilI (fun hlt=>?_) fun hlt=>?_
 · have hkm : k < mt.n:=by omega
   have hkf : k < o0.threads.n:=by omega
   simp only [BL hkm,Be,Int.toNat_natCast,Nat.zero_add]
   obtain ⟨g1,g2,g3⟩:=hg k hkf
   refine wN (by simp) ?_
   refine wC (Vq _ g2 (by omega)) fun (z : Sl Int) hz=>wN rfl (wN (by simp) (wN (by simp) ?_))
   have e2 : IntKind.i64.wrap ((k : Int) + 1) = ((k + 1 : Nat) : Int):=by rw [wrap64] <;> omega
   rw [e2]
   refine T1 (x':=⟨_,((k + 1 : Nat) : Int),o0,⟨Ii mt k ⟨(mt.get k).At,(mt.get k).Phase,(mt.get k).Ring,(mt.get k).Status,(mt.get k).AG,(mt.get k).Af,z⟩,_,_,_,_⟩⟩) (hD _ ⟨rfl,rfl,k + 1,rfl,by omega,rfl,rfl,rfl,rfl,hn,fun i hi=>?_⟩ (by simp only; omega)) ?_
   · by_cases e : i = k
     · subst e; simp only [Pc]; exact ⟨(Tz hz.1).trans g1,hz.2,by rw [hz.1.n]; exact g3⟩
     · simp only [Pb e]; exact hg i hi
   · refine congrArg (fun g=>X_f4l_5.mk _ ((k + 1 : Nat) : Int) o0 ⟨⟨mt.nil,mt.n,g⟩,_,_,_,_⟩) (funext fun i=>?_)
     cases Nat.beq i k <;> rfl
 · refine Co (of_wp ?_)
   simp only [tt_f4l_9]
   refine CU (tt:=tt_f4l_10) (fun x : X_f4l_10=>x.We = o0.rings.n ∧ x.Ah = o0 ∧ ∃ k : Nat,x.VO = k ∧ k ≤ o0.rings.n ∧ x.Fe.AB = mt ∧ x.Fe.FD = o0.now ∧ x.Fe.Reads = o0.reads ∧ x.Fe.CF = o0.ended ∧
    x.Fe.AJ.n = k ∧ ∀ i,i < k → K7 (x.Fe.AJ.get i) = aR (o0.rings.get i).x ∧ Ce (x.Fe.AJ.get i).AY ∧ Ce (x.Fe.AJ.get i).Ao)
    (fun x=>(o0.rings.n - x.VO).toNat) (fun _ y=>aS y.1 = aF o0 ∧ WZ b y.1) (fun D x hI hD=>?_) ⟨rfl,rfl,0,rfl,Nat.zero_le _,rfl,rfl,rfl,rfl,rfl,fun t ht=>by omega⟩
   obtain ⟨e0,e1,k,e4,hk,e5,e6,e7,e8,hrn2,hrg⟩:=hI
   obtain ⟨q29,q30,o0,⟨xt,xr,xn,xd,xe⟩⟩:=x
   simp only at e0 e1 e4 e5 e6 e7 e8 hrn2 hrg hD
   subst e0 e1 e4 e5 e6 e7 e8 hrn2
   simp only [tt_f4l_10]
   refine AE ilI (fun hlt=>?_) fun hlt=>?_
   · have hkr : xr.n < o0.rings.n:=by omega
     obtain ⟨hnil,hw⟩:=h.rw _ hkr
     simp only [BL hkr,Be,Int.toNat_natCast,Nat.zero_add]
     refine wN (by simp [hnil]) ?_
     refine wC (Hf _ _ (rg_of hP (by omega)) hw) fun (z : TRs) hz=>wN (by simp [room]; omega) (wN (by simp [hnil]; omega) (Co ?_))
     have e2 : IntKind.i64.wrap ((xr.n : Int) + 1) = ((xr.n + 1 : Nat) : Int):=by rw [wrap64] <;> omega
     rw [e2]
     refine T1 (x':=⟨_,((xr.n + 1 : Nat) : Int),o0,⟨xt,snoc xr z,_,_,_⟩⟩) (hD _ ⟨rfl,rfl,xr.n + 1,rfl,by omega,rfl,rfl,rfl,rfl,rfl,fun i hi=>?_⟩ (by simp only; omega)) ?_
     · by_cases e : i = xr.n
       · subst e; simp only [Hn]; exact hz
       · have : i < xr.n:=by omega
         simp only [Hm this]; exact hrg i this
     · refine congrArg (fun g=>X_f4l_10.mk _ ((xr.n + 1 : Nat) : Int) o0 ⟨xt,⟨false,xr.n + 1,g⟩,_,_,_⟩) (funext fun i=>?_)
       cases Nat.blt i xr.n <;> rfl
   · have hkk : xr.n = o0.rings.n:=by omega
     refine wN (by simp) ?_
     have htn2 : xt.n = o0.threads.n:=by assumption
     refine ⟨?_,fun t ht=>?_,fun i hi=>(hrg i hi).2⟩
     · show aS ⟨xt,xr,o0.now,o0.reads,o0.ended⟩ = aF o0
       unfold aF aS
       simp only [MS.mk.injEq,and_true]
       exact ⟨Fw htn2 fun i hi=>(hg i hi).1,Fw hkk fun i hi=>(hrg i (hkk ▸ hi)).1⟩
     · change t < xt.n at ht
       obtain ⟨g1,g2,g3⟩:=hg t (htn2 ▸ ht)
       have hw:=h.tw t (htn2 ▸ ht)
       have k1:=congrArg MT.AG g1
       have k2:=congrArg MT.Af g1
       change (xt.get t).AG = (o0.threads.get t).AG at k1
       change (xt.get t).Af = (o0.threads.get t).Af at k2
       exact ⟨by show 0 ≤ (xt.get t).AG; rw [k1]; exact hw.k0,by show (xt.get t).AG < _; rw [k1]; exact hw.k1,by show ∀ j,0 ≤ (xt.get t).Af j ∧ (xt.get t).Af j < _; rw [k2]; exact hw.rg,g2,g3⟩
theorem w_f40 (x : Int) : D_f40.wp x fun y=>y = true ↔ 18 ≤ x ∧ x ≤ 25:=by
 refine of_wp ?_
 simp only [tt_f40,TT.wp,leI,ilI,ieI,bnI,ibI,Bool.and_eq_true,Bool.false_eq_true,true_iff,false_iff]
 omega
theorem ofInt_u64 {a : Int} (h : CD a) : (BitVec.ofInt (IntKind.bits .u64) a).toNat = a.toNat:=by
 obtain ⟨h0,h1⟩:=h
 rw [BitVec.toNat_ofInt]
 show (a % ((2 ^ 64 : Nat) : Int)).toNat = a.toNat
 rw [Int.emod_eq_of_lt h0 (by exact h1)]
theorem CK {a : Int} (h : CD a) : a.toNat < 2 ^ 64:=by
 obtain ⟨h0,h1⟩:=h
 have : (2 : Nat) ^ 64 = 18446744073709551616:=by decide
 omega
theorem J4 {n : Nat} (h : n < 2 ^ 64) : IntKind.u64.wrap (n : Int) = n:=by
 have : (2 : Nat) ^ 64 = 18446744073709551616:=by decide
 exact Aj (by omega) (by omega)
theorem IK {a b : Int} (ha : CD a) (hb : CD b) : Vm.bits .and IntKind.u64 a b = ((a.toNat &&& b.toNat : Nat) : Int):=by
 simp only [Vm.bits,BitVec.toNat_and,ofInt_u64 ha,ofInt_u64 hb]
 exact J4 (Nat.and_lt_two_pow _ (CK hb))
theorem M3 {a b : Int} (ha : CD a) (hb : CD b) : Vm.bits .or IntKind.u64 a b = ((a.toNat ||| b.toNat : Nat) : Int):=by
 simp only [Vm.bits,BitVec.toNat_or,ofInt_u64 ha,ofInt_u64 hb]
 exact J4 (Nat.or_lt_two_pow (CK ha) (CK hb))
theorem M1 {a b : Int} (ha : CD a) (hb : CD b) : Vm.bits .xor IntKind.u64 a b = ((a.toNat ^^^ b.toNat : Nat) : Int):=by
 simp only [Vm.bits,BitVec.toNat_xor,ofInt_u64 ha,ofInt_u64 hb]
 exact J4 (Nat.xor_lt_two_pow (CK ha) (CK hb))
theorem T9 {b : Int} (hb : CD b) : Vm.bits .and IntKind.u64 b 63 = b % 64:=by
 rw [IK hb (by unfold CD; decide)]
 have : b.toNat &&& 63 = b.toNat % 64:=Nat.and_two_pow_sub_one_eq_mod b.toNat 6
 show ((b.toNat &&& 63 : Nat) : Int) = _
 rw [this]
 have:=hb.1
 omega
theorem w_f4f (b : Bool) : D_f4f.wp b fun y=>y = if b = true then 1 else 0:=by
 refine of_wp ?_
 simp only [tt_f4f]
 exact BM (fun h=>by rw [if_pos h]; rfl) fun h=>by rw [if_neg h]; rfl
theorem w_f3c (a b : Int) (ha : CD a) (hb : CD b) : D_f3c.wp (a,b) fun y=>y = if b = 0 then 0 else a / b:=by
 refine of_wp ?_
 simp only [tt_f3c]
 refine AE ieI (fun h=>by rw [if_pos h]; rfl) fun h=>wN (by simpa [AX] using h) ?_
 rw [if_neg h]
 show IntKind.u64.wrap (Int.tdiv a b) = _
 rw [Int.tdiv_eq_ediv_of_nonneg ha.1]
 have h2 : a / b ≤ a:=Int.ediv_le_self _ ha.1
 have h3 : 0 ≤ a / b:=Int.ediv_nonneg ha.1 hb.1
 have:=ha.2
 exact Aj h3 (by omega)
theorem w_f47 (a b : Int) (ha : CD a) : D_f47.wp (a,b) fun y=>y = if b = 0 then 0 else a % b:=by
 refine of_wp ?_
 simp only [tt_f47]
 refine AE ieI (fun h=>by rw [if_pos h]; rfl) fun h=>wN (by simpa [AX] using h) ?_
 rw [if_neg h]
 exact Int.tmod_eq_emod_of_nonneg ha.1
theorem SB (a b : Int) : Jj 11 a b = IntKind.u64.wrap (a * 2 ^ (b % 64).toNat):=rfl
theorem SA (a b : Int) : Jj 12 a b = a / 2 ^ (b % 64).toNat:=rfl
theorem w_f4h (op a b : Int) (ha : CD a) (hb : CD b) (h3 : 3 ≤ op) (h14 : op ≤ 14) : D_f4h.wp (op,(a,b)) fun y=>y.1 = Jj op a b:=by
 refine of_wp ?_
 simp only [tt_f4h]
 have hm : (b % 64).toNat ≤ 63:=by omega
 have hmin : min (b % 64).toNat (IntKind.bits .u64) = (b % 64).toNat:=Nat.min_eq_left (by show _ ≤ 64; omega)
 refine AE ieI (fun h=>?_) fun n3=>AE ieI (fun h=>?_) fun n4=>AE ieI (fun h=>?_) fun n5=>AE ieI (fun h=>?_) fun n6=>AE ieI (fun h=>?_) fun n7=>AE ieI (fun h=>?_) fun n8 =>
  AE ieI (fun h=>?_) fun n9=>AE ieI (fun h=>?_) fun n10=>AE ieI (fun h=>?_) fun n11=>AE ieI (fun h=>?_) fun n12=>AE ieI (fun h=>?_) fun n13=>AE ieI (fun h=>?_) fun n14=>by omega
 · subst h; rfl
 · subst h; rfl
 · subst h; rfl
 · subst h
   exact wC (w_f3c a b ha hb) fun (y : Int) hy=>hy
 · subst h
   exact wC (w_f47 a b ha) fun (y : Int) hy=>hy
 · subst h
   exact IK ha hb
 · subst h
   exact M3 ha hb
 · subst h
   exact M1 ha hb
 · subst h
   show shl IntKind.u64 a (Vm.bits .and IntKind.u64 b 63) = Jj 11 a b
   rw [SB,T9 hb,shl,hmin]
 · subst h
   show shr IntKind.u64 a (Vm.bits .and IntKind.u64 b 63) = Jj 12 a b
   rw [SA,T9 hb,shr,hmin,Int.fdiv_eq_ediv_of_nonneg]
   exact Int.le_of_lt (Int.pow_pos (by decide))
 · subst h
   refine wC (w_f4f (BS a b)) fun (y : Int) hy=>?_
   subst hy
   show (if BS a b = true then (1 : Int) else 0) = if a < b then 1 else 0
   simp only [ilI]
 · subst h
   refine wC (w_f4f (AX a b)) fun (y : Int) hy=>?_
   subst hy
   show (if AX a b = true then (1 : Int) else 0) = if a = b then 1 else 0
   simp only [ieI]
theorem Kh {op a b : Int} (ha : CD a) (hb : CD b) : CD (Jj op a b):=by
 have hd : CD (if b = 0 then 0 else a / b):=by
  split
  · exact CE
  · exact ⟨Int.ediv_nonneg ha.1 hb.1,by have:=Int.ediv_le_self b ha.1; have:=ha.2; omega⟩
 have hr : CD (if b = 0 then 0 else a % b):=by
  split
  · exact CE
  · rename_i h
    have h1 : 0 < b:=by have:=hb.1; omega
    exact ⟨Int.emod_nonneg _ h,by have:=Int.emod_lt_of_pos a h1; have:=hb.2; omega⟩
 have hn : ∀ {n : Nat},n < 2 ^ 64 → CD (n : Int):=fun h=>by
  have : (2 : Nat) ^ 64 = 18446744073709551616:=by decide
  exact ⟨Int.natCast_nonneg _,by omega⟩
 have it : ∀ {c : Prop} [Decidable c] {x y : Int},CD x → CD y → CD (if c then x else y):=fun h k=>by split <;> assumption
 have u1 : CD 1:=by unfold CD; decide
 have hs : CD (a / 2 ^ (b % 64).toNat):=⟨Int.ediv_nonneg ha.1 (Int.le_of_lt (Int.pow_pos (by decide))),by have:=Int.ediv_le_self (2 ^ (b % 64).toNat) ha.1; have:=ha.2; omega⟩
 unfold Jj
 exact it (Gy _) (it (Gy _) (it (Gy _) (it hd (it hr (it (hn (Nat.and_lt_two_pow _ (CK hb))) (it (hn (Nat.or_lt_two_pow (CK ha) (CK hb))) (it (hn (Nat.xor_lt_two_pow (CK ha) (CK hb))) (it (Gy _) (it hs (it (it u1 CE) (it u1 CE)))))))))))
theorem A5 {P : Program} {R Z : Type} {g : R → Z} {b : Bool} {p : Prop} [Decidable p] {t e : TT P R} {u v : Z} (hb : b = true ↔ p) (h1 : p → t.wp fun y=>g y = u) (h2 : ¬ p → e.wp fun y=>g y = v) : (TT.ite b t e).wp fun y=>g y = if p then u else v :=
 AE hb (fun h=>by rw [if_pos h]; exact h1 h) fun h=>by rw [if_neg h]; exact h2 h
theorem BQ {a b : Bool} (h : a = true ↔ b = true) : a = b:=Bool.eq_iff_iff.2 h
theorem w_f2o (k : Int) : D_f2o.wp k fun y=>y = Au k:=by
 refine AQ.wp.mono (Q:=fun y : Bool=>y = true ↔ (1 ≤ k ∧ k ≤ 4 ∨ k = 13)) (of_wp ?_) fun y hy=>BQ (hy.trans Am.symm)
 simp only [tt_f2o,TT.wp,leI,ieI,true_iff]
 omega
theorem w_f2v (k : Int) : D_f2v.wp k fun y=>y = Bn k:=by
 refine AQ.wp.mono (Q:=fun y : Bool=>y = true ↔ (1 ≤ k ∧ k ≤ 7 ∨ k = 13)) (of_wp ?_) fun y hy=>BQ (hy.trans BW.symm)
 simp only [tt_f2v]
 refine wC (w_f2o k) fun (y : Bool) hy=>?_
 subst hy
 simp only [TT.wp,leI,Am,true_iff,Bool.false_eq_true,false_iff]
 omega
theorem w_f36 (k : Int) : D_f36.wp k fun y=>y = B1 k:=by
 refine AQ.wp.mono (Q:=fun y : Bool=>y = true ↔ (8 ≤ k ∧ k ≤ 10 ∨ k = 12)) (of_wp ?_) fun y hy=>BQ (hy.trans (by simp only [B1,decide_eq_true_eq]))
 simp only [tt_f36,TT.wp,leI,ieI,true_iff]
 omega
theorem w_f21 (k : Int) : D_f21.wp k fun y=>y = ⟨#[]⟩ ↔ ¬ (1 ≤ k ∧ k ≤ 15):=by
 refine of_wp ?_
 simp only [tt_f21]
 refine AE ilI (fun h=>⟨fun _=>by omega,fun _=>rfl⟩) fun h1=>AE ilI (fun h=>⟨fun _=>by omega,fun _=>rfl⟩) fun h2=>of_wp ?_
 simp only [tt_f21_3]
 have hn : D_f3u.wp PUnit.unit fun y=>y.n = 15 ∧ ∀ i,i < 15 → y.get i ≠ ⟨#[]⟩:=by
  refine of_wp ?_
  simp only [tt_f3u]
  refine ⟨rfl,fun i hi=>?_⟩
  rcases (by omega : i = 0 ∨ i = 1 ∨ i = 2 ∨ i = 3 ∨ i = 4 ∨ i = 5 ∨ i = 6 ∨ i = 7 ∨ i = 8 ∨ i = 9 ∨ i = 10 ∨ i = 11 ∨ i = 12 ∨ i = 13 ∨ i = 14) with e | e | e | e | e | e | e | e | e | e | e | e | e | e | e <;> subst e <;> exact fun h=>by cases h
 refine wC hn fun (y : Sl ByteArray) hy=>?_
 have hw : IntKind.i64.wrap (k - 1) = k - 1:=wrap64 (by omega) (by omega)
 rw [hw]
 exact wN (by rw [ibI,hy.1]; omega) ⟨fun h=>absurd h (hy.2 _ (by omega)),fun h=>absurd ⟨by omega,by omega⟩ h⟩
def JY (e : TEv) : TEv:=⟨e.Thread,e.Kind,if Bn e.Kind = true then e.Ring else 0,if Au e.Kind = true then e.AG else 0,if B1 e.Kind = true then e.Value else 0⟩
theorem w_f10 (e : TEv) : D_f10.wp e fun y=>y = JY e:=by
 refine of_wp ?_
 simp only [tt_f10]
 refine wC (w_f2v e.Kind) fun (y : Bool) hy=>?_
 subst hy
 have h5 : ∀ r t z,D_f10_5.wp (⟨⟨e.Thread,e.Kind,r,t,e.Value⟩,z⟩ : X_f10_5) fun y=>y = ⟨e.Thread,e.Kind,r,t,if B1 e.Kind = true then e.Value else 0⟩:=fun r t z=>by
  refine of_wp ?_
  simp only [tt_f10_5]
  refine wC (w_f36 e.Kind) fun (y : Bool) hy=>?_
  subst hy
  exact AE bnI (fun h=>by rw [if_neg h]; rfl) fun h=>by rw [if_pos (Classical.byContradiction h)]; rfl
 have h3 : ∀ r z,D_f10_3.wp (⟨⟨e.Thread,e.Kind,r,e.AG,e.Value⟩,z⟩ : X_f10_3) fun y=>y = ⟨e.Thread,e.Kind,r,if Au e.Kind = true then e.AG else 0,if B1 e.Kind = true then e.Value else 0⟩:=fun r z=>by
  refine of_wp ?_
  simp only [tt_f10_3]
  refine wC (w_f2o e.Kind) fun (y : Bool) hy=>?_
  subst hy
  exact AE bnI (fun h=>by rw [if_neg h]; exact h5 _ _ _) fun h=>by rw [if_pos (Classical.byContradiction h)]; exact h5 _ _ _
 unfold JY
 exact AE bnI (fun h=>by rw [if_neg h]; exact h3 _ _) fun h=>by rw [if_pos (Classical.byContradiction h)]; exact h3 _ _
theorem B4 {e : TEv} : BU e = true ↔ (1 ≤ e.Kind ∧ e.Kind ≤ 15) ∧ (0 ≤ e.Thread ∧ e.Thread ≤ 7) ∧ (0 ≤ e.Ring ∧ e.Ring ≤ 7) ∧ e.AG < 4611686018427387904 ∧
 (Bn e.Kind = true ∨ e.Ring = 0) ∧ (Au e.Kind = true ∨ e.AG = 0) ∧ (B1 e.Kind = true ∨ e.Value = 0):=by
 simp only [BU,decide_eq_true_eq]
theorem Sm {e : TEv} : ((AX e.Thread (JY e).Thread) && ((AX e.Kind (JY e).Kind) && ((AX e.Ring (JY e).Ring) && ((AX e.AG (JY e).AG) && ((AX e.Value (JY e).Value) && true))))) = true ↔
 (Bn e.Kind = true ∨ e.Ring = 0) ∧ (Au e.Kind = true ∨ e.AG = 0) ∧ (B1 e.Kind = true ∨ e.Value = 0):=by
 simp only [JY,Bool.and_eq_true,ieI,true_and,and_true]
 cases Bn e.Kind <;> cases Au e.Kind <;> cases B1 e.Kind <;> simp
theorem w_f33 (e : TEv) : D_f33.wp e fun y=>y = BU e:=by
 refine AQ.wp.mono (Q:=fun y : Bool=>y = true ↔ BU e = true) (of_wp ?_) fun y hy=>BQ hy
 simp only [tt_f33]
 refine wC (w_f21 e.Kind) fun (y : ByteArray) hy=>?_
 refine AE (p:=1 ≤ e.Kind ∧ e.Kind ≤ 15) (by rw [bnI,MM]; exact (not_congr hy).trans Decidable.not_not) (fun h1=>?_) fun h1=>BP fun k=>h1 (B4.1 k).1
 refine wC (w_f10 e) fun (y : TEv) hy=>?_
 subst hy
 refine AE Sm (fun h2=>AE leI (fun h3=>AE ilI (fun h4=>AE leI (fun h5=>AE ilI (fun h6=>De ilI ?_) fun h=>?_) fun h=>?_) fun h=>?_) fun h=>?_) fun h=>?_
 · rw [B4]; exact ⟨fun h=>⟨h1,by omega,by omega,h,h2⟩,fun h=>h.2.2.2.1⟩
 all_goals refine BP fun k=>?_
 all_goals have k:=B4.1 k
 · omega
 · omega
 · omega
 · omega
 · exact h k.2.2.2.2
def aA (a : TAk) : MA:=⟨a.Kind,a.Ring,a.Mode,a.Reader,a.AG,a.Value⟩
theorem w_f2w (k : Int) : D_f2w.wp k fun y=>y = E1 k:=by
 refine of_wp ?_
 simp only [tt_f2w,E1]
 exact A5 (g:=id) ieI (fun _=>rfl) fun _=>A5 (g:=id) ieI (fun _=>rfl) fun _=>A5 (g:=id) ieI (fun _=>rfl) fun _=>A5 (g:=id) ieI (fun _=>rfl) fun _=>A5 (g:=id) ieI (fun _=>rfl) fun _ =>
  A5 (g:=id) ieI (fun _=>rfl) fun _=>A5 (g:=id) ieI (fun _=>rfl) fun _=>A5 (g:=id) ieI (fun _=>rfl) fun _=>A5 (g:=id) ieI (fun _=>rfl) fun _=>A5 (g:=id) ieI (fun _=>rfl) fun _=>A5 (g:=id) ieI (fun _=>rfl) fun _=>rfl
theorem w_fj (a : TAk) (e : TEv) : D_fj.wp (a,e) fun y=>y = CH (aA a) e:=by
 refine of_wp ?_
 simp only [tt_fj]
 refine wC (w_f2v e.Kind) fun (y : Bool) hy=>?_
 subst hy
 have h4 : ∀ w : Bool,(w = true ↔ (a.Kind = 1 ∨ a.Kind = 2)) → D_fj_4.wp (⟨a,e,w⟩ : X_fj_4) fun y=>y = (if e.Kind = 5 then decide ((a.Kind = 1 ∨ a.Kind = 2) ∧ a.Mode = 0)
  else if e.Kind = 6 then decide (a.Kind = 1 ∨ a.Kind = 2)
  else if e.Kind = 7 then decide ((a.Kind = 1 ∨ a.Kind = 2) ∧ a.Mode = 2)
  else if e.Kind = 2 ∨ e.Kind = 4 then decide (a.Kind = E1 e.Kind ∧ a.AG = e.AG)
  else if e.Kind = 12 then decide (a.Kind = 7 ∧ a.Value = e.Value)
  else decide (a.Kind = E1 e.Kind)):=fun w hw=>by
  refine of_wp ?_
  simp only [tt_fj_4]
  have dd : ∀ {x y : Int} {p q : Prop} [Decidable q] {b : Bool},(b = true ↔ p) → (q ↔ p ∧ x = y) → (TT.ite b (.ret (AX x y)) (.ret false) : TT Tryz.prog R_fj).wp fun z=>z = decide q:=fun {x y p q _ b} hb h =>
   AE hb (fun k=>BQ (ieI.trans ⟨fun e=>decide_eq_true (h.2 ⟨k,e⟩),fun e=>(h.1 (of_decide_eq_true e)).2⟩)) fun k=>(decide_eq_false fun e=>k (h.1 e).1).symm
  have tk : (TT.call con_f2w e.Kind fun (y1 : R_f2w)=>.ite (AX a.Kind y1) (.ret (AX a.AG e.AG)) (.ret false) : TT Tryz.prog R_fj).wp fun z=>z = decide (a.Kind = E1 e.Kind ∧ a.AG = e.AG):=by
   refine wC (w_f2w e.Kind) fun (y : Int) hy=>?_
   subst hy
   exact dd ieI Iff.rfl
  refine A5 (g:=id) ieI (fun _=>dd hw Iff.rfl) fun _=>A5 (g:=id) ieI (fun _=>BQ (hw.trans (by simp))) fun _=>A5 (g:=id) ieI (fun _=>dd hw Iff.rfl) fun _=>?_
  refine AE ieI (fun h=>?_) fun h2=>AE ieI (fun h=>?_) fun h4=>?_
  · rw [if_pos (.inl h)]; exact tk
  · rw [if_pos (.inr h)]; exact tk
  · rw [if_neg (by omega)]
    refine A5 (g:=id) ieI (fun _=>dd ieI Iff.rfl) fun _=>of_wp ?_
    simp only [tt_fj_16]
    refine wC (w_f2w e.Kind) fun (y : Int) hy=>?_
    subst hy
    exact BQ (ieI.trans (by simp))
 have h3 : (Bn e.Kind = true → a.Ring = e.Ring) → D_fj_3.wp (⟨a,e⟩ : X_fj_3) fun y=>y = CH (aA a) e:=fun hr=>by
  have hh : (!Bn e.Kind || decide (a.Ring = e.Ring)) = true:=by
   cases q : Bn e.Kind
   · rfl
   · simpa using hr q
  unfold CH
  show D_fj_3.wp _ fun y=>y = ((!Bn e.Kind || decide (a.Ring = e.Ring)) && _)
  rw [hh,Bool.true_and]
  refine of_wp ?_
  simp only [tt_fj_3]
  exact AE ieI (fun h=>h4 true (by simp [h])) fun h=>h4 _ (by rw [ieI]; omega)
 refine BM (fun h=>AE (p:=a.Ring ≠ e.Ring) (by rw [bnI,ieI]) (fun hn=>?_) fun hn=>h3 fun _=>Classical.byContradiction hn) fun h=>h3 fun k=>absurd k h
 unfold CH
 have : (!Bn e.Kind || decide ((aA a).Ring = e.Ring)) = false:=by rw [h]; exact decide_eq_false hn
 rw [this]; rfl
theorem Hq (g : Nat → Int) (i v : Int) : (fun k=>cond (Nat.beq k i.toNat) v (g k)) = Df g i v:=by
 funext k
 unfold Df
 by_cases h : k = i.toNat
 · subst h; simp
 · rw [JE h,if_neg h]; rfl
theorem BH {g : Nat → Int} {i v : Int} (hg : ∀ j,CD (g j)) (hv : CD v) : ∀ j,CD (Df g i v j):=fun j=>by
 unfold Df; split
 · exact hv
 · exact hg j
theorem Dq.with {b : Nat} {t : TTh} (h : Dq b t) (a : Int) {g : Nat → Int} (hg : ∀ j,CD (g j)) : Dq b ⟨a,t.Phase,t.Ring,t.Status,t.AG,g,t.Seen⟩:=⟨h.k0,h.k1,hg,h.sz,h.sb⟩
theorem w_f38 (i : TIn) (t : TTh) (b : Nat) (hi : TS i) (hr : Bg i = true) (ho : i.Op ≤ 17) (ht : Dq b t) (ha : 0 ≤ t.At ∧ t.At < 1000) :
 D_f38.wp (i,t) fun y=>aT y = Dh i (aT t) ∧ Dq b y:=by
 have hf:=A6 hr
 have hA : A0 i.A 8 = true:=by rw [ibI]; omega
 have hB : A0 i.B 8 = true:=by rw [ibI]; omega
 have hC : A0 i.C 8 = true:=by rw [ibI]; omega
 have hw : IntKind.i64.wrap (t.At + 1) = t.At + 1:=wrap64 (by omega) (by omega)
 refine of_wp ?_
 simp only [tt_f38,hA,hB,hC,hw,Hq]
 have nx : (TT.ret (TTh.mk (t.At + 1) t.Phase t.Ring t.Status t.AG t.Af t.Seen) : TT Tryz.prog R_f38).wp fun y=>aT y = { aT t with At:=t.At + 1 } ∧ Dq b y:=⟨rfl,ht.with _ ht.rg⟩
 have jm : i.Op ≠ 1 → (TT.ret (TTh.mk (IntKind.i64.wrap i.K) t.Phase t.Ring t.Status t.AG t.Af t.Seen) : TT Tryz.prog R_f38).wp fun y=>aT y = { aT t with At:=i.K } ∧ Dq b y:=fun h=>by
  have:=hf.2.2.2.2.2.1 h
  rw [wrap64 (by omega) (by omega)]
  exact ⟨rfl,ht.with _ ht.rg⟩
 have e0 : (aT t).At = t.At:=rfl
 have e1 : (aT t).Af = t.Af:=rfl
 unfold Dh
 simp only [e0,e1]
 refine AE ieI (fun h=>?_) fun n1=>AE ieI (fun h=>?_) fun n2=>AE ieI (fun h=>?_) fun n15=>AE ieI (fun h=>?_) fun n16=>AE ieI (fun h=>?_) fun n17=>?_
 · rw [if_pos h]; exact wN rfl ⟨rfl,ht.with _ (BH ht.rg hi.1)⟩
 · rw [if_neg n1,if_pos h]; exact wN rfl (wN rfl ⟨rfl,ht.with _ (BH ht.rg (ht.rg _))⟩)
 · rw [if_neg n1,if_neg n2,if_pos (.inl h)]; exact jm n1
 · rw [if_neg n1,if_neg n2]
   refine wN rfl (AE (p:=t.Af i.A.toNat = 0) (by rw [h]; simp [AX]) (fun q=>?_) fun q=>?_)
   · rw [if_pos (.inr (.inl ⟨h,q⟩))]; exact jm n1
   · rw [if_neg (by omega),if_neg (by omega)]; exact nx
 · rw [if_neg n1,if_neg n2]
   refine wN rfl (AE (p:=t.Af i.A.toNat ≠ 0) (by rw [h]; simp [AX]) (fun q=>?_) fun q=>?_)
   · rw [if_pos (.inr (.inr ⟨h,q⟩))]; exact jm n1
   · rw [if_neg (by omega),if_neg (by omega)]; exact nx
 · rw [if_neg n1,if_neg n2,if_neg (by omega),if_pos (by omega)]
   refine wN rfl (wN rfl (wC (w_f4h i.Op _ _ (ht.rg _) (ht.rg _) (by omega) (by omega)) fun (y : Int × Bool) hy=>wN rfl ?_))
   rw [hy]
   exact ⟨rfl,ht.with _ (BH ht.rg (Kh (ht.rg _) (ht.rg _)))⟩
theorem Lp {l : List TIn} {t : MT} (h : ¬ (t.At < l.length ∧ (gI l t.At).Op ≤ 17)) : ∀ n,Dn l n t = t
 | 0=>rfl
 | n + 1=>by unfold Dn; rw [if_neg h]
theorem I2 {l : List TIn} {t : MT} (h : t.At < l.length ∧ (gI l t.At).Op ≤ 17) (n : Nat) : Dn l (n + 1) t = Dn l n (Dh (gI l t.At) t):=by
 show (if _ then _ else _) = _
 rw [if_pos h]
structure VC (l : Sl TIn) (i : TIn) : Prop where
 ok : TS i
 ri : Bg i = true
 jm : 15 ≤ i.Op ∧ i.Op ≤ 17 → i.K ≤ l.n
theorem LU {l : Sl TIn} (hl : Nq l) (hc : codeOk l) {a : Int} (h0 : 0 ≤ a) (h1 : a < l.n) : VC l (l.get a.toNat):=by
 have hk : a.toNat < l.n:=by omega
 obtain ⟨c1,c2⟩:=hc.2 _ hk
 exact ⟨hl.i _ hk,c1,fun q=>by
  have c3 : ¬ ((l.n : Int) < (l.get a.toNat).K):=fun z=>c2 ⟨q.1,q.2,z⟩
  omega⟩
theorem w_f3p (i : TIn) (t : TTh) (l : Sl TIn) (hr : Bg i = true) (h0 : 0 ≤ t.At) (h1 : t.At < l.n) (hi : l.get t.At.toNat = i) (ho : 18 ≤ i.Op) : D_f3p.wp (i,t) fun y=>aA y = EZ l.L (aT t):=by
 have hf:=A6 hr
 have hA : A0 i.A 8 = true:=by rw [ibI]; omega
 have hg : gI l.L (aT t).At = i:=by rw [← hi]; exact HH l h0 h1
 have hw : IntKind.i64.wrap i.K = i.K:=by
  have:=hf.2.2.2.2.2.1 (by omega)
  exact wrap64 (by omega) (by omega)
 refine of_wp ?_
 simp only [tt_f3p,hA,EZ,hg,hw]
 rw [if_neg (by rw [Sl.A8]; show t.At ≠ _; omega),if_neg (by omega)]
 exact A5 ieI (fun _=>wN rfl rfl) fun _=>A5 ieI (fun _=>rfl) fun _=>A5 ieI (fun _=>rfl) fun _=>A5 ieI (fun _=>rfl) fun _=>A5 ieI (fun _=>rfl) fun _=>A5 ieI (fun _=>rfl) fun _=>A5 ieI (fun _=>wN rfl rfl) fun _=>rfl
theorem w_f9_12 (l : Sl TIn) (s : TTh) (z4 : TTh) (z5 : TAk) (hl : Nq l) (hc : codeOk l) (h0 : 0 ≤ s.At) (h1 : s.At ≤ l.n) :
 D_f9_12.wp (⟨l,s,z4,z5⟩ : X_f9_12) fun y=>y.1 = s ∧ aA y.2 = EZ l.L (aT s):=by
 refine of_wp ?_
 simp only [tt_f9_12]
 refine AE ieI (fun h=>⟨rfl,?_⟩) fun h=>?_
 · unfold EZ
   rw [if_pos (by rw [Sl.A8]; exact h)]; rfl
 · have h2 : s.At < l.n:=by omega
   have hF:=LU hl hc h0 h2
   have hf:=A6 hF.ri
   refine wN (by rw [ibI]; omega) (wC (w_f3g _) fun (y : Bool) hy=>?_)
   refine AE hy (fun hp=>⟨rfl,?_⟩) fun hp=>wN (by rw [ibI]; omega) ?_
   · unfold EZ
     rw [if_neg (by rw [Sl.A8]; exact h)]
     have : gI l.L (aT s).At = l.get s.At.toNat:=HH l h0 h2
     rw [this,if_pos hp.2]; rfl
   · exact wC (w_f3p _ s l hF.ri h0 h2 rfl (by omega)) fun y hy=>⟨rfl,hy⟩
theorem w_f9 (l : Sl TIn) (t : TTh) (b : Nat) (hl : Nq l) (hc : codeOk l) (hT : Es l.L (aT t)) (ht : Dq b t) :
 D_f9.wp (l,t) fun y=>aT y.1 = (Ba l.L (aT t)).1 ∧ aA y.2 = (Ba l.L (aT t)).2 ∧ Dq b y.1:=by
 have a0 : 0 ≤ t.At:=hT.a0
 have a1 : t.At ≤ l.n:=by have:=hT.a1; simpa [aT] using this
 have p1:=hT.p1
 refine of_wp ?_
 simp only [tt_f9]
 unfold Ba
 have es : (aT t).Status = t.Status:=rfl
 have ep : (aT t).Phase = t.Phase:=rfl
 simp only [es,ep]
 refine AE (p:=t.Status ≠ 0) (by rw [bnI,ieI]) (fun h=>?_) fun hs=>AE ieI (fun h=>?_) fun hp1=>AE ieI (fun h=>?_) fun hp2=>?_
 · rw [if_pos h]; exact ⟨rfl,rfl,ht⟩
 · have hq:=p1 (by show t.Phase ≠ 0; omega)
   have h2 : t.At < l.n:=by have:=hq.2.1; simpa [aT] using this
   have hF:=LU hl hc a0 h2
   have hf:=A6 hF.ri
   refine wN (by rw [ibI]; omega) (wN (by rw [ibI]; omega) ?_)
   rw [if_neg (fun k=>k (Classical.byContradiction hs)),if_pos h]
   have : gI l.L (aT t).At = l.get t.At.toNat:=HH l a0 h2
   rw [this]
   exact ⟨rfl,rfl,ht⟩
 · have hq:=p1 (by show t.Phase ≠ 0; omega)
   have h2 : t.At < l.n:=by have:=hq.2.1; simpa [aT] using this
   have hF:=LU hl hc a0 h2
   have hf:=A6 hF.ri
   have ho : (l.get t.At.toNat).Op = 17 + t.Phase:=by
    have:=hq.2.2.1
    rwa [show gI l.L (aT t).At = l.get t.At.toNat from HH l a0 h2] at this
   have hk:=hf.2.2.2.2.2.1 (by omega)
   refine wN (by rw [ibI]; omega) ?_
   rw [if_neg (fun k=>k (Classical.byContradiction hs)),if_neg hp1,if_pos h,wrap64 (by omega) (by omega)]
   have : gI l.L (aT t).At = l.get t.At.toNat:=HH l a0 h2
   rw [this]
   exact ⟨rfl,rfl,ht⟩
 · rw [if_neg (fun k=>k (Classical.byContradiction hs)),if_neg hp1,if_neg hp2]
   simp only
   have h256:=hc.1
   refine CU (tt:=tt_f9_8) (fun x : X_f9_8=>x.Bk = l ∧ ∃ k : Nat,x.KN = k ∧ k ≤ 256 ∧ (0 ≤ x.BG.At ∧ x.BG.At ≤ l.n) ∧ Dn l.L (256 - k) (aT x.BG) = Dn l.L 256 (aT t) ∧ Dq b x.BG)
    (fun x=>(256 - x.KN).toNat) (fun _ y=>aT y.1 = Dn l.L 256 (aT t) ∧ aA y.2 = EZ l.L (Dn l.L 256 (aT t)) ∧ Dq b y.1) (fun D x hI hD=>?_) ⟨rfl,0,rfl,by omega,⟨a0,a1⟩,rfl,ht⟩
   obtain ⟨l',q,s,z4,z5⟩:=x
   obtain ⟨e1,k,e2,hk,hA,hrun,hw⟩:=hI
   simp only at e1 e2 hA hrun hw hD
   subst e1 e2
   simp only [tt_f9_8]
   have fin : (¬ ((aT s).At < l'.L.length ∧ (gI l'.L (aT s).At).Op ≤ 17) ∨ k = 256) → D_f9_12.wp (⟨l',s,z4,z5⟩ : X_f9_12) fun y=>aT y.1 = Dn l'.L 256 (aT t) ∧ aA y.2 = EZ l'.L (Dn l'.L 256 (aT t)) ∧ Dq b y.1:=fun h=>by
    have he : Dn l'.L 256 (aT t) = aT s:=by
     rw [← hrun]
     rcases h with h | h
     · exact Lp h _
     · rw [h]; rfl
    rw [he]
    refine (w_f9_12 l' s z4 z5 hl hc hA.1 hA.2).mono fun y hy=>?_
    rw [hy.1]
    exact ⟨rfl,hy.2,hw⟩
   refine AE ilI (fun hlt=>AE ieI (fun h=>fin (.inl fun z=>?_)) fun h=>?_) fun hlt=>fin (.inr (by omega))
   · have:=z.1; rw [Sl.A8] at this; change s.At < _ at this; omega
   · have h2 : s.At < l'.n:=by omega
     have hF:=LU hl hc hA.1 h2
     have hf:=A6 hF.ri
     have hg : gI l'.L (aT s).At = l'.get s.At.toNat:=HH l' hA.1 h2
     refine wN (by rw [ibI]; omega) (wC (w_f40 _) fun (y : Bool) hy=>?_)
     refine AE hy (fun h=>fin (.inl fun z=>?_)) fun h=>of_wp ?_
     · rw [hg] at z; omega
     · simp only [tt_f9_10]
       have h17 : (l'.get s.At.toNat).Op ≤ 17:=by omega
       refine wN (by rw [ibI]; omega) (wC (w_f38 _ s b hF.ok hF.ri h17 hw (by omega)) fun (y : TTh) hy=>of_wp ?_)
       simp only [tt_f9_11]
       have e2 : IntKind.i64.wrap ((k : Int) + 1) = ((k + 1 : Nat) : Int):=by rw [wrap64] <;> omega
       rw [e2]
       have JU : 0 ≤ y.At ∧ y.At ≤ l'.n:=by
        have:=MI (i:=l'.get s.At.toNat) (t:=aT s) (n:=l'.n) hA.1 h2 (fun q=>(hf.2.2.2.2.2.1 q).1) hF.jm
        rw [← hy.1] at this; exact this
       refine hD _ ⟨rfl,k + 1,rfl,by omega,JU,?_,hy.2⟩ (by simp only; omega)
       have hst : (aT s).At < l'.L.length ∧ (gI l'.L (aT s).At).Op ≤ 17:=⟨by rw [Sl.A8]; exact h2,by rw [hg]; exact h17⟩
       rw [← hrun,show 256 - k = (256 - (k + 1)) + 1 by omega,I2 hst,hg,hy.1]
theorem Hj (x : Sl Int) (h : Ce x) (hn : x.n * 8 ≤ 140737488351232) : D_f1z.wp x fun y=>C6 y x ∧ Ce y:=by
 refine of_wp ?_
 simp only [tt_f1z]
 refine BM (fun e=>⟨⟨(h e).symm,fun i hi=>by have:=h e; omega⟩,fun _=>rfl⟩) fun _=>wN (room_le hn) ⟨⟨?_,fun i _=>rfl⟩,fun e=>?_⟩
 · exact Nat.zero_add _
 · simp only [Bool.cond_self,Bool.false_eq_true] at e
theorem w_f39 (l : Sl TIn) (t : TTh) (b : Nat) (hb : b * 8 ≤ 140737488351232) (hl : Nq l) (hc : codeOk l) (hT : Es l.L (aT t)) (ht : Dq b t) :
 D_f39.wp (l,t) fun y=>aT y.1 = (Ba l.L (aT t)).1 ∧ aA y.2.1 = (Ba l.L (aT t)).2 ∧ Dq b y.1 ∧ y.2.2 = 0:=by
 refine of_wp ?_
 simp only [tt_f39]
 refine wC (w_fv l t hl ht.k0) fun (y : Bool) hy=>?_
 refine AE bnI (fun h=>absurd (hy.2 ⟨hc,hT⟩) h) fun _=>?_
 have hsb:=ht.sb
 refine wC (Hj t.Seen ht.sz (by omega)) fun (z : Sl Int) hz=>?_
 have he : aT ⟨t.At,t.Phase,t.Ring,t.Status,t.AG,t.Af,z⟩ = aT t:=Tz hz.1
 have hn:=hz.1.n
 refine wC (w_f9 l ⟨t.At,t.Phase,t.Ring,t.Status,t.AG,t.Af,z⟩ b hl hc (by rw [he]; exact hT) ⟨ht.k0,ht.k1,ht.rg,hz.2,by show z.n ≤ b; omega⟩) fun (y : TTh × TAk) hy=>?_
 rw [he] at hy
 exact ⟨hy.1,hy.2.1,hy.2.2,rfl⟩
theorem Dq.grow {b b' : Nat} {t : TTh} (h : Dq b t) (k : b ≤ b') : Dq b' t:=⟨h.k0,h.k1,h.rg,h.sz,Nat.le_trans h.sb k⟩
theorem Kg {i : TIn} {t : MT} {e : TEv} {v : Int} (h1 : e.Kind ≠ 1) (h3 : e.Kind ≠ 3) (h14 : e.Kind ≠ 14) (h15 : e.Kind ≠ 15) : BJ i t e v =
 ⟨t.At + 1,0,0,t.Status,0,(if e.Kind = 2 then Df t.Af i.B 0 else if e.Kind = 4 then Df (Df t.Af i.A v) i.B 0 else if e.Kind = 5 then Df t.Af i.B 1 else if e.Kind = 6 then Df t.Af i.B 2 else if e.Kind = 7 then Df t.Af i.B 3 else if e.Kind = 8 then Df t.Af i.A e.Value else if e.Kind = 9 then Df t.Af i.A e.Value else if e.Kind = 10 then Df (Df t.Af i.A e.Value) i.B 0 else if e.Kind = 11 then Df t.Af i.B 1 else t.Af),if e.Kind = 12 then t.Seen ++ [e.Value] else t.Seen⟩:=by
 unfold BJ
 rw [if_neg h1,if_neg h3,if_neg h14,if_neg h15]
theorem RW {α : Type} (s : Sl α) (x : α) : (snoc s x).L = s.L ++ [x]:=by
 apply List.ext_getElem
 · simp [snoc]
 · intro i h1 h2
   have h1 : i < s.n + 1:=by simpa [snoc] using h1
   simp only [Sl.GP]
   by_cases e : i < s.n
   · rw [Hm e,List.getElem_append_left (by simpa using e),Sl.GP]
   · have : i = s.n:=by omega
     subst this
     rw [Hn,List.getElem_append_right (by simp)]
     simp
theorem w_fo (i : TIn) (t : TTh) (e : TEv) (v : Int) (b : Nat) (hb : b * 8 + 8 ≤ 140737488351232) (hr : Bg i = true) (ht : Dq b t) (ha : 0 ≤ t.At ∧ t.At < 1000) (hv : CD v) (hev : CD e.Value)
 (h1 : e.Kind ≠ 1) (h3 : e.Kind ≠ 3) (h14 : e.Kind ≠ 14) (h15 : e.Kind ≠ 15) :
 D_fo.wp (i,(e,(v,t))) fun y=>aT y = BJ i (aT t) e v ∧ Dq (b + 1) y:=by
 have hf:=A6 hr
 have hA : A0 i.A 8 = true:=by rw [ibI]; omega
 have hB : A0 i.B 8 = true:=by rw [ibI]; omega
 have hw : IntKind.i64.wrap (t.At + 1) = t.At + 1:=wrap64 (by omega) (by omega)
 have u1 : CD 1:=by unfold CD; decide
 have u2 : CD 2:=by unfold CD; decide
 have u3 : CD 3:=by unfold CD; decide
 have hsb:=ht.sb
 rw [Kg h1 h3 h14 h15]
 refine of_wp ?_
 simp only [tt_fo,hA,hB,Hq]
 have h23 : ∀ (g : Nat → Int) (sn : Sl Int),(∀ j,CD (g j)) → Ce sn → sn.n ≤ b + 1 →
  D_fo_23.wp (⟨⟨t.At,t.Phase,t.Ring,t.Status,t.AG,g,sn⟩⟩ : X_fo_23) fun y=>aT y = ⟨t.At + 1,0,0,t.Status,0,g,sn.L⟩ ∧ Dq (b + 1) y:=fun g sn hg hs hn=>by
  refine of_wp ?_
  simp only [tt_fo_23,hw]
  exact ⟨rfl,⟨Int.le_refl 0,(by decide : (0 : Int) < 18446744073709551616),hg,hs,hn⟩⟩
 have e0 : (aT t).At = t.At:=rfl
 have e1 : (aT t).Af = t.Af:=rfl
 have e2 : (aT t).Seen = t.Seen.L:=rfl
 have e3 : (aT t).Status = t.Status:=rfl
 simp only [e0,e1,e2,e3]
 have go : ∀ (g : Nat → Int),(∀ j,CD (g j)) → D_fo_23.wp (⟨⟨t.At,t.Phase,t.Ring,t.Status,t.AG,g,t.Seen⟩⟩ : X_fo_23) fun y=>aT y = ⟨t.At + 1,0,0,t.Status,0,g,t.Seen.L⟩ ∧ Dq (b + 1) y :=
  fun g hg=>h23 g t.Seen hg ht.sz (by omega)
 refine AE ieI (fun h=>?_) fun n2=>AE ieI (fun h=>?_) fun n4=>AE ieI (fun h=>?_) fun n5=>AE ieI (fun h=>?_) fun n6=>AE ieI (fun h=>?_) fun n7=>AE ieI (fun h=>?_) fun n8=>AE ieI (fun h=>?_) fun n9 =>
  AE ieI (fun h=>?_) fun n10=>AE ieI (fun h=>?_) fun n11=>AE ieI (fun h=>?_) fun n12=>?_
 · simp only [h,if_true,Int.reduceEq,if_false]; exact wN rfl (go _ (BH ht.rg CE))
 · simp only [h,if_true,Int.reduceEq,if_false]; exact wN rfl (wN rfl (go _ (BH (BH ht.rg hv) CE)))
 · simp only [h,if_true,Int.reduceEq,if_false]; exact wN rfl (go _ (BH ht.rg u1))
 · simp only [h,if_true,Int.reduceEq,if_false]; exact wN rfl (go _ (BH ht.rg u2))
 · simp only [h,if_true,Int.reduceEq,if_false]; exact wN rfl (go _ (BH ht.rg u3))
 · simp only [h,if_true,Int.reduceEq,if_false]; exact wN rfl (go _ (BH ht.rg hev))
 · simp only [h,if_true,Int.reduceEq,if_false]; exact wN rfl (go _ (BH ht.rg hev))
 · simp only [h,if_true,Int.reduceEq,if_false]; exact wN rfl (wN rfl (go _ (BH (BH ht.rg hev) CE)))
 · simp only [h,if_true,Int.reduceEq,if_false]; exact wN rfl (go _ (BH ht.rg u1))
 · simp only [h,if_true,Int.reduceEq,if_false]
   refine wN (by simp [room]; omega) ?_
   have:=h23 t.Af (snoc t.Seen e.Value) ht.rg (fun z=>by cases z) (by show t.Seen.n + 1 ≤ b + 1; omega)
   rw [RW] at this
   exact this
 · rw [if_neg n2,if_neg n4,if_neg n5,if_neg n6,if_neg n7,if_neg n8,if_neg n9,if_neg n10,if_neg n11,if_neg n12]
   exact go _ ht.rg
theorem SU {l : List TIn} {t n : MT} {a : MA} {e : TEv} (hq : QC l t n a) (hf : T0 a e) (hk : 1 ≤ e.Kind ∧ e.Kind ≤ 15) (h14 : e.Kind ≠ 14) (h15 : e.Kind ≠ 15) : n.At < l.length:=by
 have b1:=hf.f1; have b2:=hf.f2; have b3:=hf.f3; have b4:=hf.f4; have b5:=hf.f5; have b8:=hf.f8; have b9:=hf.f9; have b10:=hf.f10; have b12:=hf.f12; have b13:=hf.f13
 have hd : a.Kind = 1 ∨ a.Kind = 2 ∨ a.Kind = 3 ∨ (4 ≤ a.Kind ∧ a.Kind ≤ 7) ∨ a.Kind = 10 ∨ a.Kind = 11:=by omega
 rcases hd with h | h | h | h | h | h
 · exact (hq.k1 h).2.1
 · exact (hq.k2 h).2.1
 · exact (hq.k3 h).2.1
 · exact (hq.kn h).2
 · exact (hq.kp h).2.1
 · exact (hq.kr h).2.1
def Qm (l : List TIn) (t : MT) (e : TEv) : Int :=
 if BU e = false then 3 else if (Ba l t).2.Kind = 0 ∨ CH (Ba l t).2 e = false then 11 else 0
theorem w_f2b (rs : List TRg) (l : Sl TIn) (t : TTh) (e : TEv) (v : Int) (b : Nat) (hb : b * 8 + 8 ≤ 140737488351232) (hl : Nq l) (hc : codeOk l) (hcr : Gx rs l.L) (hT : Es l.L (aT t)) (ht : Dq b t) (hv : CD v) (hev : CD e.Value) (het : 0 ≤ e.AG) :
 D_f2b.wp (l,(t,(e,v))) fun y=>y.2 = Qm l.L (aT t) e ∧ (Qm l.L (aT t) e = 0 → aT y.1 = BJ (gI l.L (Ba l.L (aT t)).1.At) (Ba l.L (aT t)).1 e v ∧ Dq (b + 1) y.1):=by
 refine of_wp ?_
 simp only [tt_f2b]
 refine wC (w_f39 l t b (by omega) hl hc hT ht) fun (y : TTh × TAk × Int) hy=>?_
 obtain ⟨s,a,er⟩:=y
 obtain ⟨hs,ha,hw,h0⟩:=hy
 simp only at hs ha hw h0
 subst h0
 refine AE (p:=(0 : Int) ≠ 0) (by rw [bnI,ieI]) (fun h=>absurd rfl h) fun _=>?_
 refine wC (w_f33 e) fun (y : Bool) hy=>?_
 subst hy
 unfold Qm
 rw [← ha]
 refine AE bnI (fun h=>?_) fun h=>?_
 · have h : BU e = false:=by simpa using h
   rw [if_pos h]; exact ⟨rfl,fun k=>absurd k (by decide)⟩
 · have hR : BU e = true:=Classical.byContradiction h
   rw [if_neg (by rw [hR]; decide)]
   refine AE ieI (fun hk=>?_) fun hk=>wC (w_fj a e) fun (y : Bool) hy=>?_
   · rw [if_pos (.inl hk)]; exact ⟨rfl,fun k=>absurd k (by decide)⟩
   · subst hy
     refine AE bnI (fun hf=>?_) fun hf=>of_wp ?_
     · rw [if_pos (.inr (by simpa using hf))]; exact ⟨rfl,fun k=>absurd k (by decide)⟩
     · have hF : CH (aA a) e = true:=Classical.byContradiction hf
       have hk' : (aA a).Kind ≠ 0:=hk
       rw [if_neg (by rw [hF]; simp [hk'])]
       rw [← hs]
       have hff:=Mn hR hF
       have hq:=OL hcr hT
       rw [← ha,← hs] at hq
       have hn:=(Lo hcr hT).2
       rw [← hs] at hn
       simp only [tt_f2b_8]
       have n1 : CH (aA a) e = true:=hF
       have fin : ∀ {z : MT} {x : TTh},aT x = z → Dq (b + 1) x → (TT.ret ((x,0) : R_f2b) : TT Tryz.prog R_f2b).wp fun y=>y.2 = 0 ∧ (True → aT y.1 = z ∧ Dq (b + 1) y.1):=fun h1 h2=>⟨rfl,fun _=>⟨h1,h2⟩⟩
       have hre:=(BX hR)
       have tk : CD e.AG:=⟨het,by have:=hre.2.2.2.1; omega⟩
       refine AE ieI (fun h=>fin (by rw [VA _ h]; rfl) ⟨tk.1,tk.2,hw.rg,hw.sz,Nat.le_succ_of_le hw.sb⟩) fun h1=>AE ieI (fun h=>fin (by rw [U9 _ h]; rfl) ⟨tk.1,tk.2,hw.rg,hw.sz,Nat.le_succ_of_le hw.sb⟩) fun h3 =>
        AE ieI (fun h=>fin (by rw [So _ h]; rfl) ⟨hw.k0,hw.k1,hw.rg,hw.sz,Nat.le_succ_of_le hw.sb⟩) fun h14=>AE ieI (fun h=>fin (by rw [Sn _ h]; rfl) ⟨hw.k0,hw.k1,hw.rg,hw.sz,Nat.le_succ_of_le hw.sb⟩) fun h15=>?_
       have JU : s.At < l.n:=by
        have:=SU (n:=aT s) hq hff hre.1 h14 h15
        simpa [aT] using this
       have a0 : 0 ≤ s.At:=hn.a0
       have h256:=hc.1
       have hi:=LU hl hc a0 JU
       have hg : gI l.L (aT s).At = l.get s.At.toNat:=HH l a0 JU
       rw [hg]
       refine wN (by rw [ibI]; omega) (wC (w_fo _ s e v b hb hi.ri hw (by omega) hv hev h1 h3 h14 h15) fun (y : TTh) hy=>fin hy.1 hy.2)
structure RC (c : TRg) (b : Int) (r : TRr) : Prop where
 rg : A1 c = true
 wf : P7 c r
 inv : C7 c b (aR r)
 bb : b ≤ 4611686018427387904
section
variable {c : TRg} {b : Int} {r : TRr}
theorem RC.hn (h : RC c b r) : 1 ≤ r.AA.AD.n ∧ r.AA.AD.n ≤ 8 ∧ (r.AA.AD.n : Int) = c.AU:=by
 have:=CY h.rg; have:=h.wf.hn; omega
theorem RC.ln (h : RC c b r) : 1 ≤ r.s.x.l.n ∧ r.s.x.l.n ≤ 64 ∧ (r.s.x.l.n : Int) = c.Cn:=by
 have:=CY h.rg; have:=h.wf.ln; omega
theorem RC.t (h : RC c b r) : 0 ≤ r.AA.tail ∧ r.AA.tail < 4611686018427387904:=by
 have h0:=h.inv.t0; have h1:=h.inv.tb; have:=h.bb
 change 0 ≤ r.AA.tail at h0; change r.AA.tail < b at h1; omega
theorem RC.hd (h : RC c b r) {k : Nat} (hk : k < r.AA.AD.n) : 0 ≤ r.AA.AD.get k ∧ r.AA.AD.get k ≤ r.AA.tail ∧ r.AA.tail - r.AA.AD.get k ≤ c.Cn :=
 h.inv.h0 _ (Sl.CZ.2 ⟨k,hk,rfl⟩)
theorem Ls {j : Int} (h0 : 0 ≤ j) (h1 : j < r.AA.AD.n) : hd (aR r) j = r.AA.AD.get j.toNat:=I5 _ h0 h1 0
theorem Mw : He (aR r) = r.s.x.l.n:=by simp [He,aR]
theorem Rs (h : RC c b r) (t : Int) : GX (aR r) t < r.s.x.l.n:=by
 have:=KQ h.inv h.rg t; simpa [aR] using this
theorem Fi (h : RC c b r) (t : Int) : Av (aR r) t = r.s.x.l.get (GX (aR r) t):=by
 have:=Rs h t
 unfold Av
 show r.s.x.l.L.getD _ _ = _
 rw [List.getD,Sl.DH _ this]; rfl
theorem RC.slot (h : RC c b r) (t : Int) : L7 c.Cn r.AA.AD.n r.AA.tail r.AA.AD.L (GX (aR r) t) (r.s.x.l.get (GX (aR r) t)):=by
 have:=h.inv.sl _ _ (Ig h.inv h.rg t)
 rw [Fi h] at this
 simpa [aR] using this
theorem Tf (x y : Int) : Nx x y = min x y:=by
 unfold Nx
 by_cases h : y < x
 · rw [ilI.2 h]; show y = _; omega
 · rw [Lr.2 (Int.not_lt.1 h)]; show x = _; omega
theorem Tg (x y : Int) : imax x y = max x y:=by
 unfold imax
 by_cases h : x < y
 · rw [ilI.2 h]; show y = _; omega
 · rw [Lr.2 (Int.not_lt.1 h)]; show x = _; omega
theorem RN (x : Ar Int) (h1 : 1 ≤ x.n) (h8 : x.n ≤ 8) : D_f5.wp x fun y=>(∃ k,k < x.n ∧ y = x.get k) ∧ ∀ k,k < x.n → y ≤ x.get k:=by
 refine B3 ?_
 simp only [tt_f5]
 refine AE ilI (fun h=>by omega) fun _=>of_wp ?_
 simp only [tt_f5_3]
 refine wN (by rw [ibI]; omega) (wN (by simp) ?_)
 refine CU (tt:=tt_f5_5) (fun z : X_f5_5=>z.Ah = x ∧ ∃ k : Nat,z.Ek = k ∧ 1 ≤ k ∧ k ≤ x.n ∧ (∃ j,j < x.n ∧ z.BG = x.get j) ∧ ∀ j,j < k → z.BG ≤ x.get j) (fun z=>(x.n - z.Ek).toNat)
  (fun _ y=>(∃ k,k < x.n ∧ y.1 = x.get k) ∧ ∀ k,k < x.n → y.1 ≤ x.get k) (fun D z hI hD=>?_) ⟨rfl,1,rfl,by omega,by omega,⟨0,by omega,by simp⟩,fun j hj=>by
    have : j = 0:=by omega
    subst this; exact Int.le_refl _⟩
 obtain ⟨m,i,o⟩:=z
 obtain ⟨e0,k,e1,hk1,hk,⟨j,hj,e2⟩,hle⟩:=hI
 simp only at e0 e1 e2 hle hD
 subst e0 e1
 simp only [tt_f5_5]
 refine AE ilI (fun h=>?_) fun h=>?_
 · have hkm : k < o.n:=by omega
   have e3 : IntKind.i64.wrap ((k : Int) + 1) = ((k + 1 : Nat) : Int):=by rw [wrap64] <;> omega
   refine wN (BL hkm) (wN (by simp) ?_)
   rw [e3,Nat.zero_add,Int.toNat_natCast,Tf]
   refine hD _ ⟨rfl,k + 1,rfl,by omega,hkm,?_,fun i hi=>?_⟩ (by simp only; omega)
   · by_cases q : m ≤ o.get k
     · exact ⟨j,hj,by show min m _ = _; omega⟩
     · exact ⟨k,hkm,by show min m _ = _; omega⟩
   · show min m (o.get k) ≤ o.get i
     by_cases q : i = k
     · subst q; omega
     · have:=hle i (by omega); omega
 · exact ⟨⟨j,hj,e2⟩,fun i hi=>hle i (by omega)⟩
theorem L9 (h : RC c b r) : D_f1i.wp r.AA fun y=>Jw (aR r).AY y:=by
 refine B3 ?_
 simp only [tt_f1i]
 have hn:=h.hn
 refine wC (RN ⟨r.AA.AD.n,r.AA.AD.get⟩ hn.1 hn.2.1) fun (y : Int) hy=>wN (by simp) ?_
 obtain ⟨⟨k,hk,e⟩,hle⟩:=hy
 refine ⟨Sl.CZ.2 ⟨k,hk,e.symm⟩,fun z hz=>?_⟩
 obtain ⟨i,hi,rfl⟩:=Sl.CZ.1 hz
 exact hle i hi
theorem Gd (h : RC c b r) : D_f1q.wp r fun y=>y = EA (aR r):=by
 refine B3 ?_
 simp only [tt_f1q]
 refine wC (L9 h) fun (y : Int) hy=>BQ ?_
 rw [JP hy,leI,h.wf.ms,Mw]
 obtain ⟨k,hk,e⟩:=Sl.CZ.1 hy.1
 have:=h.hd hk
 have:=h.t
 rw [Aj (by omega) (by omega),h.wf.ln]
 exact Iff.rfl
theorem DT (r : TRr) : D_f1e.wp r fun y=>y = (aR r).Aw:=B3 rfl
theorem IX (j : Int) (s : TRc_L1) (a : Ar Int) : D_f12.wp (j,(s,a)) fun y=>y = true ↔ 0 ≤ j ∧ j < s.AD.n:=by
 refine B3 ?_
 simp only [tt_f12]
 exact AE leI (fun h=>De ilI ⟨fun k=>⟨h,k⟩,fun k=>k.2⟩) fun h=>BP fun k=>h k.1
theorem Em (j : Int) (h0 : 0 ≤ j) (h1 : j < r.AA.AD.n) : D_f1g.wp (j,r) fun y=>y = DN (aR r) j:=by
 refine B3 ?_
 simp only [tt_f1g]
 refine wC (IX _ _ _) fun (y : Bool) hy=>?_
 refine AE bnI (fun h=>absurd (hy.2 ⟨h0,h1⟩) h) fun _=>wN (by rw [ibI]; exact ⟨h0,h1⟩) (wN (by simp) (wN (by simp) ?_))
 unfold DN
 rw [Ls h0 h1]
 refine BQ ?_
 rw [decide_eq_true_eq,Nat.zero_add]
 exact ieI
theorem TM (h : RC c b r) {t : Int} (h0 : 0 ≤ t) : Int.tmod t (IntKind.u64.wrap (r.s.x.l.n : Int)) = (GX (aR r) t : Int):=by
 have:=h.ln
 rw [Aj (by omega) (by omega),Int.tmod_eq_emod_of_nonneg h0]
 unfold GX
 rw [Mw]
 have:=Int.emod_nonneg t (b:=(r.s.x.l.n : Int)) (by omega)
 omega
theorem Jp (h : RC c b r) {t : Int} (h0 : 0 ≤ t) (a : Ar TSo) (z : Int) : D_ft.wp (t,((⟨⟨r.s.x.l.nil,r.s.x.l.n⟩,z⟩ : TSs_L0),a)) fun y=>y = (GX (aR r) t,r.s.x.l.n):=by
 refine B3 ?_
 simp only [tt_ft]
 have hl:=h.ln
 have hp:=Rs h t
 rw [TM h h0,Aj (by omega) (by omega)]
 refine wN (by rw [bnI,ieI]; omega) (wN (BL hp) ?_)
 show (0 + Int.toNat _,_) = _
 rw [Int.toNat_natCast,Nat.zero_add]
theorem w_f3a {t : Int} (h0 : 0 ≤ t) (h1 : t < 4611686018427387904) : D_f3a.wp t fun y=>y = 2 * t + 1:=by
 refine of_wp ?_
 simp only [tt_f3a]
 show IntKind.u64.wrap _ = _
 rw [Aj (z:=2 * t) (by omega) (by omega),Aj (by omega) (by omega)]
theorem L8 (h : RC c b r) {t : Int} (h0 : 0 ≤ t) (h1 : t < 4611686018427387904) : D_f1v.wp (t,r.s.x) fun y=>y = decide ((Av (aR r) t).AO = 2 * t):=by
 refine B3 ?_
 simp only [tt_f1v]
 refine AE ilI (fun _=>?_) fun h=>absurd h1 h
 refine wC (Jp h h0 _ _) fun (y : Nat × Nat) hy=>?_
 subst hy
 refine wN (by simp) (wC (w_f2u t h0 (by omega)) fun (y : Int) hy=>wN (by simp) ?_)
 subst hy
 rw [Fi h]
 exact BQ (by rw [decide_eq_true_eq]; exact ieI)
theorem NO (h : RC c b r) {t : Int} (h0 : 0 ≤ t) : D_f29.wp (t,r) fun y=>y = GU (aR r) t:=by
 have ht:=h.t
 refine B3 ?_
 simp only [tt_f29]
 unfold GU
 have e : (aR r).Aq = r.AA.tail:=rfl
 rw [e]
 refine AE ilI (fun hlt=>?_) fun hlt=>?_
 · refine wN (by simp [h.wf.sn]) (wC (L8 h h0 (by omega)) fun (y : Bool) hy=>wN (by simp [h.wf.sn]) (Co ?_))
   subst hy
   exact BQ (by simp only [decide_eq_true_eq]; exact ⟨fun q=>⟨hlt,q⟩,fun q=>q.2⟩)
 · exact (decide_eq_false fun q=>hlt q.1).symm
theorem JG (h : RC c b r) {j t : Int} (hj0 : 0 ≤ j) (hj : j < r.AA.AD.n) (h0 : 0 ≤ t) (h1 : t < 4611686018427387904) :
 D_fn.wp (j,(t,r.s.x)) fun y=>y = 0 ↔ (Av (aR r) t).AO = 2 * t + 1 ∧ DE (Av (aR r) t).Left j = true:=by
 have hn:=h.hn
 refine B3 ?_
 simp only [tt_fn]
 refine AE leI (fun q=>absurd h1 (Int.not_lt.2 q)) fun _=>AE ilI (fun q=>by omega) fun _=>AE leI (fun q=>by rw [h.wf.rd] at q; omega) fun _=>of_wp ?_
 simp only [tt_fn_5]
 refine wC (Jp h h0 _ _) fun (y : Nat × Nat) hy=>?_
 subst hy
 rw [Fi h]
 have hs:=h.slot t
 generalize r.s.x.l.get (GX (aR r) t) = x at hs
 have ne : ∀ {e : Int} {q : Prop},e ≠ 0 → ¬ q → (e = 0 ↔ q):=fun h k=>⟨fun e=>absurd e h,fun e=>absurd e k⟩
 refine wN (by simp) (wC (w_f3a h0 h1) fun (y : Int) hy=>?_)
 subst hy
 refine AE ilI (fun q=>wN (by simp) (ne (show (9 : Int) ≠ 0 by decide) fun k=>by omega)) fun q1=>wN (by simp) (wC (w_f3a h0 h1) fun (y : Int) hy=>?_)
 subst hy
 refine AE ilI (fun q=>wN (by simp) (ne (show (11 : Int) ≠ 0 by decide) fun k=>by omega)) fun q2=>wN (by simp) (wN (by rw [leI]; exact hj0) ?_)
 have hst : x.AO = 2 * t + 1:=by omega
 have hl:=hs.held (by omega)
 have h28 : (2 : Int) ^ r.AA.AD.n ≤ 2 ^ 8:=by exact_mod_cast Nat.pow_le_pow_right (by decide) (by omega : r.AA.AD.n ≤ 8)
 have hb:=OO (x:=x.Left) (j:=j.toNat) (by omega) (by omega) (by omega)
 rw [show ((j.toNat : Nat) : Int) = j by omega] at hb
 refine AE (ieI.trans hb) (fun q=>wN (by simp) (ne (show (11 : Int) ≠ 0 by decide) fun k=>?_)) fun q=>wN (by simp) ⟨fun _=>⟨hst,by simpa using q⟩,fun _=>rfl⟩
 rw [q] at k; exact absurd k.2 (by decide)
theorem Od (h : RC c b r) {j t : Int} (hj0 : 0 ≤ j) (hj : j < r.AA.AD.n) (h0 : 0 ≤ t) : D_f2g.wp (j,(t,r)) fun y=>y = Ke (aR r) j t:=by
 have ht:=h.t
 have hh:=h.hd (k:=j.toNat) (by omega)
 refine B3 ?_
 simp only [tt_f2g]
 refine wC (W4 j r.AA) fun (y : Bool) hy=>?_
 refine AE hy (fun _=>wN (by rw [ibI]; omega) (wN (by simp) ?_)) fun k=>absurd ⟨hj0,hj⟩ k
 unfold Ke
 rw [Ls hj0 hj,Nat.zero_add]
 refine AE ilI (fun hlt=>wN (by simp [h.wf.sn]) ?_) fun hlt=>wN (by simp) (decide_eq_false fun q=>hlt q.1).symm
 have e : D_f23.wp (j,(t,r.s.x)) fun y=>y = true ↔ (Av (aR r) t).AO = 2 * t + 1 ∧ DE (Av (aR r) t).Left j = true:=by
  refine B3 ?_
  simp only [tt_f23]
  exact wC (JG h hj0 hj h0 (by omega)) fun (y : Int) hy=>ieI.trans hy
 refine wC e fun (y : Bool) hy=>wN (by simp [h.wf.sn]) (Co (wN (by simp) (BQ ?_)))
 rw [decide_eq_true_eq]
 exact hy.trans ⟨fun q=>⟨hlt,q⟩,fun q=>q.2⟩
end


theorem F6 {α : Type} (s : Sl α) (k : Nat) (y : α) : (Ii s k y).L = s.L.set k y:=by
 apply List.ext_getElem
 · simp [Ii]
 · intro i h1 h2
   rw [Sl.GP]
   by_cases e : i = k
   · subst e; rw [Pc,List.getElem_set_self]
   · rw [Pb e,List.getElem_set_ne (fun q=>e q.symm),Sl.GP]
section
theorem JR {x : Int} {j : Nat} (h0 : 0 ≤ x) (h1 : x < 256) (hj : j < 8) (hb : DE x (j : Int) = true) : Vm.bits .andNot IntKind.i64 x (shl IntKind.i64 1 (j : Int)) = x - 2 ^ j ∧ 0 ≤ x - 2 ^ j:=by
 have:=O8 ⟨x.toNat,by omega⟩ ⟨j,hj⟩
 simp only [show ((x.toNat : Nat) : Int) = x by omega] at this
 have h2:=(Ky (n:=8) (k:=j) h0 (by exact_mod_cast h1) (by omega) hj hj hb).2
 exact ⟨this hb,h2⟩
theorem Hw {j : Nat} (hj : j ≤ 8) : (2 : Int) ^ j ≤ 256:=by exact_mod_cast Nat.pow_le_pow_right (by decide : 0 < 2) hj
end
theorem D0 {p : TPg} {t : Int} (h0 : 0 ≤ t) (h1 : t < p.AB.n) : Bi (aP p) t = (p.AB.get t.toNat).L:=by
 unfold Bi aP
 simp only [List.getD,List.getElem?_map]
 rw [Sl.DH _ (by omega)]; rfl
theorem Mv {p : TPg} {i : Int} (h0 : 0 ≤ i) (h1 : i < p.AJ.n) : II (aP p) i = p.AJ.get i.toNat:=I5 _ h0 h1 _
theorem F5 {f : TFa} {t : Int} (h0 : 0 ≤ t) (h1 : t < f.threads.n) : KA (aF f) t = aT (f.threads.get t.toNat):=by
 unfold KA aF
 simp only [List.getD,List.getElem?_map]
 rw [Sl.DH _ (by omega)]; rfl
theorem Rg {f : TFa} {i : Int} (h0 : 0 ≤ i) (h1 : i < f.rings.n) : CP (aF f) i = aR (f.rings.get i.toNat).x:=by
 unfold CP aF
 simp only [List.getD,List.getElem?_map]
 rw [Sl.DH _ (by omega)]; rfl
structure O3 (e : TEv) : Prop where
 tk : CD e.AG
 vl : CD e.Value
section
variable {p : TPg} {B : Int} {m : MS} {e : TEv}
theorem FI (h : Dj (aP p) B m) (f : DF (aP p) m e) (k : Bn e.Kind = true) :
 (0 ≤ e.Ring ∧ e.Ring < p.AJ.n) ∧ ((A2 (aP p) m e.Thread).Kind = 2 ∨ (A2 (aP p) m e.Thread).Kind = 11 → 0 ≤ (A2 (aP p) m e.Thread).Reader ∧ (A2 (aP p) m e.Thread).Reader < (p.AJ.get e.Ring.toNat).AU) ∧
   (e.Kind = 3 ∨ e.Kind = 4 → 0 ≤ (A2 (aP p) m e.Thread).Reader ∧ (A2 (aP p) m e.Thread).Reader < (p.AJ.get e.Ring.toNat).AU):=by
 obtain ⟨r0,r1,r2⟩:=Gs h f k
 have hf:=Mn f.re f.ft
 have r1 : e.Ring.toNat < p.AJ.n:=by simpa [aP] using r1
 rw [Mv r0 (by omega)] at r2
 exact ⟨⟨r0,by omega⟩,r2,fun q=>r2 (q.imp hf.f3 fun z=>(hf.f4 z).1)⟩
theorem EJ (h : Dj (aP p) B m) (f : DF (aP p) m e) : 0 ≤ e.Thread ∧ e.Thread < p.AB.n:=by
 have h1:=f.lt
 have h2:=h.nt
 have : (aP p).AB.length = p.AB.n:=by simp [aP]
 have:=f.th
 omega
end
section
variable {p : TPg} {B : Int}
theorem Ft {B : Int} {m : MS} (h : Dj (aP p) B m) {t : Int} (h0 : 0 ≤ t) (h1 : t < p.AB.n) : Gx p.AJ.L (p.AB.get t.toNat).L:=by
 have : (aP p).AB[t.toNat]? = some (p.AB.get t.toNat).L:=by
  unfold aP
  simp only [List.getElem?_map]
  rw [Sl.DH _ (by omega)]; rfl
 exact P0 h this
end
def UV (m : MS) : Prop:=∀ r ∈ m.AJ,∀ x ∈ r.Ao,CD x.Value
theorem RT {i : TIn} {t : MT} (hk : CD i.K) (h : ∀ j,CD (t.Af j)) : ∀ j,CD ((Dh i t).Af j):=by
 unfold Dh
 repeat' split
 · exact BH h hk
 · exact BH h (h _)
 · exact h
 · exact BH h (Kh (h _) (h _))
 · exact h
theorem Pf {l : List TIn} (hl : ∀ i ∈ l,CD i.K) : ∀ (n : Nat) (t : MT),(∀ j,CD (t.Af j)) → 0 ≤ t.At → (∀ n' : Nat,0 ≤ (Dn l n' t).At) → ∀ j,CD ((Dn l n t).Af j)
 | 0,_,h,_,_=>h
 | n + 1,t,h,h0,hA=>by
   unfold Dn
   split
   · rename_i hc
     have hs : ∀ n' : Nat,0 ≤ (Dn l n' (Dh (gI l t.At) t)).At:=fun n'=>by rw [← I2 hc]; exact hA _
     exact Pf hl n _ (RT (hl _ (Hb h0 hc.1)) h) (hs 0) hs
   · exact h
theorem Kc {rs : List TRg} {l : List TIn} {t : MT} (hc : Gx rs l) (hl : ∀ i ∈ l,CD i.K) (hT : Es l t) (h : ∀ j,CD (t.Af j)) : (∀ j,CD ((Ba l t).1.Af j)) ∧ CD (Ba l t).2.Value:=by
 unfold Ba
 repeat' split
 · exact ⟨h,CE⟩
 · exact ⟨h,h _⟩
 · exact ⟨h,CE⟩
 · have hr:=Pf hl 256 t h hT.a0 fun n=>(G0 hc n t hT.a0 hT.a1).2.1
   refine ⟨hr,?_⟩
   simp only [EZ]
   repeat' split
   all_goals first | exact CE | exact hr _
theorem HP {r : MR} (h : ∀ x ∈ r.Ao,CD x.Value) (t : Int) : CD (Av r t).Value:=by
 unfold Av
 rw [List.getD_eq_getElem?_getD]
 cases q : r.Ao[GX r t]? with
 | none=>exact CE
 | some x=>exact h _ (List.mem_of_getElem? q)
theorem MO {m : MS} (h : UV m) (i : Int) : ∀ x ∈ (CP m i).Ao,CD x.Value:=by
 unfold CP
 rw [List.getD_eq_getElem?_getD]
 cases q : m.AJ[i.toNat]? with
 | none=>intro x hx; cases hx
 | some x=>exact h _ (List.mem_of_getElem? q)
theorem QN {r : MR} {a : MA} {e : TEv} (h : ∀ x ∈ r.Ao,CD x.Value) (ha : CD a.Value) : ∀ x ∈ (Bq r a e).Ao,CD x.Value:=by
 unfold Bq
 repeat' split
 · exact h
 · intro x hx
   rcases List.mem_or_eq_of_mem_set hx with q | q
   · exact h x q
   · subst q; exact ha
 · exact h
 · intro x hx
   rcases List.mem_or_eq_of_mem_set hx with q | q
   · exact h x q
   · subst q
     unfold Kf
     split
     · exact CE
     · exact HP h _
 · exact h
 · exact h
theorem L6 {P : MP} {m : MS} {e : TEv} (h : UV m) (ha : CD (A2 P m e.Thread).Value) : UV (D2 P m e):=by
 intro r hr
 unfold D2 at hr
 simp only at hr
 split at hr
 · rcases List.mem_or_eq_of_mem_set hr with q | q
   · exact h r q
   · subst q; exact QN (MO h _) ha
 · exact h r hr
theorem Su {P : MP} : UV (Eo P):=by
 intro r hr x hx
 simp only [Eo,List.mem_map] at hr
 obtain ⟨c,_,rfl⟩:=hr
 simp only [GS,List.mem_map] at hx
 obtain ⟨i,_,rfl⟩:=hx
 exact CE
theorem Gm.k {p : TPg} (h : Gm p) {t : Nat} (ht : t < p.AB.n) : ∀ i ∈ (p.AB.get t).L,CD i.K:=fun i hi=>by
 obtain ⟨j,hj,rfl⟩:=Sl.CZ.1 hi
 exact (h.ins t ht j hj).1
theorem map_set {α β : Type} (f : α → β) (l : List α) (k : Nat) (x : α) : (l.set k x).map f = (l.map f).set k (f x):=by
 apply List.ext_getElem
 · simp
 · intro i h1 h2
   simp only [List.getElem_map]
   by_cases e : k = i
   · subst e; simp
   · simp [List.getElem_set_ne e]

structure FC (p : TPg) (B : Int) (k : Nat) (f : TFa) : Prop where
 hp : Gm p
 inv : Dj (aP p) B (aF f)
 wf : Wz p k f
 uv : UV (aF f)
 hB : B ≤ 2305843009213693952
 hk : k ≤ 1000000000
theorem Dr {P : Program} {R : Type} {b1 b2 : Bool} {pr : Prop} {r : R} {Q : R → Prop} (h1 : b1 = true) (h2 : b2 = true) (h : Q r) : (TT.need b1 (TT.side pr (TT.need b2 (TT.ret r))) : TT P R).wp Q:=⟨h1,h2,h⟩
section
variable {p : TPg} {B : Int} {k : Nat} {f : TFa} {e : TEv}
theorem FC.code (h : FC p B k f) {t : Int} (h0 : 0 ≤ t) (h1 : t < p.AB.n) : Nq (f.p.AB.get t.toNat) ∧ codeOk (f.p.AB.get t.toNat) ∧ (f.p.AB.get t.toNat).L = Bi (aP p) t ∧ f.p.AB.n = p.AB.n:=by
 have hc:=h.wf.cp
 have ht : t.toNat < p.AB.n:=by omega
 have hs:=(hc.t t.toNat ht).1
 refine ⟨hs.Nq (h.hp.c ht),?_,?_,hc.n⟩
 · exact Mt (p:=f.p) (by rw [hc.same]; exact h.inv.pi) (by rw [hc.n]; exact ht)
 · rw [hs.L,D0 h0 h1]
theorem FC.Hk (h : FC p B k f) {t : Int} (h0 : 0 ≤ t) (h1 : t < p.AB.n) : Es (Bi (aP p) t) (aT (f.threads.get t.toNat)):=by
 have ht:=h.wf.tn
 have:=h.inv.Hk (t:=t) (by simp [aF]; omega)
 rwa [F5 h0 (by omega)] at this
theorem FC.ring (h : FC p B k f) {i : Int} (h0 : 0 ≤ i) (h1 : i < p.AJ.n) : RC (p.AJ.get i.toNat) B (f.rings.get i.toNat).x ∧ (f.rings.get i.toNat).nil = false ∧ CP (aF f) i = aR (f.rings.get i.toNat).x:=by
 have hr:=h.wf.rn
 have hB:=h.hB
 have h2 : i.toNat < f.rings.n:=by omega
 have hR:=h.inv.KG (i:=i) (by simp [aP]; omega)
 rw [Mv h0 h1,Rg h0 (by omega)] at hR
 obtain ⟨w1,w2⟩:=h.wf.rw _ h2
 exact ⟨⟨hR.2,w2,hR.1,by omega⟩,w1,Rg h0 (by omega)⟩
theorem F3 (t : Int) (f : TFa) : D_f18.wp (t,f) fun y=>y = true ↔ 0 ≤ t ∧ t < f.threads.n:=by
 refine B3 ?_
 simp only [tt_f18]
 exact AE leI (fun h=>wN (by simp) (De ilI ⟨fun k=>⟨h,k⟩,fun k=>k.2⟩)) fun h=>BP fun k=>h k.1
theorem F4 (h : FC p B k f) {t : Int} (h0 : 0 ≤ t) (h1 : t < p.AB.n) : D_f19.wp (t,f) fun y=>aA y = A2 (aP p) (aF f) t:=by
 obtain ⟨c1,c2,c3,c4⟩:=h.code h0 h1
 have htn:=h.wf.tn
 have hk:=h.hk
 have hT:=h.Hk h0 h1
 rw [← c3] at hT
 refine B3 ?_
 simp only [tt_f19,Nat.zero_add]
 refine wN (by rw [ibI]; omega) (wN (by rw [ibI]; omega) (wN (by simp) ?_))
 refine wC (w_f39 _ _ k (by omega) c1 c2 hT (h.wf.tw _ (by omega))) fun (y : TTh × TAk × Int) hy=>wN (by simp) ?_
 unfold A2
 rw [F5 h0 (by omega),← c3]
 exact hy.2.1
theorem Ql : Dl (aP p) (aF f) e = if BU e = false then 3 else if (f.threads.n : Int) ≤ e.Thread then 5 else if (A2 (aP p) (aF f) e.Thread).Kind = 0 ∨ CH (A2 (aP p) (aF f) e.Thread) e = false then 11 else 0:=by
 unfold Dl
 rw [show ((aF f).AB.length : Int) = f.threads.n by simp [aF]]
theorem Ge (h : FC p B k f) (he : O3 e) : D_f15.wp (e,f) fun y=>y = Dl (aP p) (aF f) e:=by
 have htn:=h.wf.tn
 have hk:=h.hk
 refine B3 ?_
 simp only [tt_f15,Nat.zero_add]
 rw [Ql]
 refine wC (w_f33 e) fun (y : Bool) hy=>?_
 subst hy
 refine A5 (g:=Prod.fst) (by rw [bnI]; simp) (fun _=>rfl) fun hR=>?_
 have hR : BU e = true:=by simpa using hR
 have hre:=BX hR
 refine wC (F3 e.Thread f) fun (y : Bool) hy=>?_
 refine AE bnI (fun q=>?_) fun q=>?_
 · rw [if_pos (Int.not_lt.1 fun z=>q (hy.2 ⟨hre.2.1.1,z⟩))]; rfl
 · have hh:=hy.1 (Classical.byContradiction q)
   have h0:=hh.1
   have h1 : e.Thread < p.AB.n:=by omega
   obtain ⟨c1,c2,c3,c4⟩:=h.code h0 h1
   have hT:=h.Hk h0 h1
   rw [← c3] at hT
   have hcr:=Ft h.inv h0 h1
   rw [← D0 h0 h1,← c3] at hcr
   refine wN (by rw [ibI]; omega) (wN (by rw [ibI]; omega) (wN (by simp) ?_))
   refine wC (w_f2b _ _ _ e 0 k (by omega) c1 c2 hcr hT (h.wf.tw _ (by omega)) CE he.vl he.tk.1) fun (y : TTh × Int) hy=>wN (by simp) ?_
   have e1 : A2 (aP p) (aF f) e.Thread = (Ba (f.p.AB.get e.Thread.toNat).L (aT (f.threads.get e.Thread.toNat))).2:=by
    unfold A2
    rw [F5 h0 (by omega),← c3]
   rw [if_neg (by omega),e1]
   show y.2 = _
   rw [hy.1]
   unfold Qm
   rw [if_neg (by rw [hR]; simp)]
theorem LC (h : FC p B k f) (a : TAk) (hr : 0 ≤ e.Ring ∧ e.Ring < p.AJ.n) (hrd : e.Kind = 3 ∨ e.Kind = 4 → 0 ≤ a.Reader ∧ a.Reader < (p.AJ.get e.Ring.toNat).AU) (ht : 0 ≤ e.AG) :
 D_f1d.wp (e,(a,f)) fun y=>y = Ca (CP (aF f) e.Ring) (aA a) e:=by
 obtain ⟨hC,hnil,hrn⟩:=h.ring hr.1 hr.2
 have hn:=hC.hn
 have hfr:=h.wf.rn
 have e1 : (aA a).Reader = a.Reader:=rfl
 refine B3 ?_
 simp only [tt_f1d,Nat.zero_add]
 have nd : ((true && true) && (((Nat.beq f.rings.n f.rings.n) && (Nat.blt e.Ring.toNat f.rings.n)) && (!(f.rings.get e.Ring.toNat).nil))) = true:=by simp [hnil]; omega
 have nd2 : ((true && true) && (Nat.beq f.rings.n f.rings.n)) = true:=by simp
 rw [hrn]
 unfold Ca
 rw [e1]
 refine wN (by rw [ibI]; omega) (wN (by simp [hnil]) ?_)
 have bd : ∀ {x y : Int},AX x y = decide (x = y):=fun {x y}=>BQ (by rw [decide_eq_true_eq]; exact ieI)
 refine A5 (g:=Prod.fst) ieI (fun _=>wC (Gd hC) fun (y : Bool) hy=>?_) fun n1=>A5 (g:=Prod.fst) ieI (fun _=>wC (NO hC ht) fun (y : Bool) hy=>Dr nd nd2 hy) fun n2 =>
  A5 (g:=Prod.fst) ieI (fun q3=>?_) fun n3=>A5 (g:=Prod.fst) ieI (fun q4=>?_) fun n4=>wC (FH _) fun (y : Int) hy=>Dr nd nd2 ?_
 · subst hy
   refine AE bnI (fun q=>wC (FH _) fun (y : Int) hy=>Dr nd nd2 ?_) fun q=>Dr nd nd2 ?_
   · subst hy
     rw [show EA (aR (f.rings.get e.Ring.toNat).x) = false by simpa using q]
     exact bd
   · rw [show EA (aR (f.rings.get e.Ring.toNat).x) = true from Classical.byContradiction q]; rfl
 · obtain ⟨j0,j1⟩:=hrd (.inl q3)
   refine wC (Em a.Reader j0 (by omega)) fun (y : Bool) hy=>?_
   subst hy
   refine AE bnI (fun q=>wC (JH a.Reader _ j0 (by omega)) fun (y : Int) hy=>Dr nd nd2 ?_) fun q=>Dr nd nd2 ?_
   · subst hy
     rw [show DN (aR (f.rings.get e.Ring.toNat).x) a.Reader = false by simpa using q,Ls j0 (by omega)]
     exact bd
   · rw [show DN (aR (f.rings.get e.Ring.toNat).x) a.Reader = true from Classical.byContradiction q]; rfl
 · obtain ⟨j0,j1⟩:=hrd (.inr q4)
   exact wC (Od hC j0 (by omega) ht) fun (y : Bool) hy=>Dr nd nd2 hy
 · subst hy
   exact bd
theorem LD (h : FC p B k f) (a : TAk) (hr : 0 ≤ a.Ring ∧ a.Ring < p.AJ.n) (hrd : a.Kind ≠ 1 → 0 ≤ a.Reader ∧ a.Reader < (p.AJ.get a.Ring.toNat).AU) :
 D_f16.wp (a,f) fun y=>y = GR (CP (aF f) a.Ring) (aA a):=by
 obtain ⟨hC,hnil,hrn⟩:=h.ring hr.1 hr.2
 have hn:=hC.hn
 have hfr:=h.wf.rn
 have e1 : (aA a).Reader = a.Reader:=rfl
 have e2 : (aA a).Kind = a.Kind:=rfl
 refine B3 ?_
 simp only [tt_f16,Nat.zero_add]
 have nd : ((true && true) && (((Nat.beq f.rings.n f.rings.n) && (Nat.blt a.Ring.toNat f.rings.n)) && (!(f.rings.get a.Ring.toNat).nil))) = true:=by simp [hnil]; omega
 have nd2 : ((true && true) && (Nat.beq f.rings.n f.rings.n)) = true:=by simp
 rw [hrn]
 unfold GR
 rw [e1,e2]
 refine wN (by rw [ibI]; omega) (wN (by simp [hnil]) ?_)
 refine A5 (g:=Prod.fst) ieI (fun _=>wC (DT _) fun (y : Bool) hy=>?_) fun q=>?_
 · subst hy
   refine BM (fun q=>Dr nd nd2 (by rw [q]; rfl)) fun q=>wC (Gd hC) fun (y : Bool) hy=>Dr nd nd2 ?_
   subst hy
   rw [show (aR (f.rings.get a.Ring.toNat).x).Aw = false by simpa using q]; rfl
 · obtain ⟨j0,j1⟩:=hrd q
   exact wC (Em a.Reader j0 (by omega)) fun (y : Bool) hy=>Dr nd nd2 hy
theorem w_f2z (hk : 1 ≤ e.Kind) : D_f2z.wp e fun y=>y = Au e.Kind:=by
 refine of_wp ?_
 simp only [tt_f2z]
 exact AE leI (fun q=>(Am.2 (by omega)).symm) fun q=>BQ (by rw [Am]; exact ieI.trans (by omega))
theorem ED (h : FC p B k f) (he : O3 e) : D_fe.wp (e,f) fun y=>y = Ax (aP p) (aF f) e:=by
 have hfr:=h.wf.rn
 refine B3 ?_
 simp only [tt_fe,Nat.zero_add]
 refine wC (Ge h he) fun (y : Int) hy=>?_
 subst hy
 unfold Ax
 refine AE (p:=Dl (aP p) (aF f) e ≠ 0) (by rw [bnI,ieI]) (fun q=>by rw [decide_eq_false q]; rfl) fun q=>?_
 have q:=Classical.byContradiction q
 rw [decide_eq_true q,Bool.true_and]
 have F:=fitting q
 have hth:=EJ h.inv F
 refine wC (F4 h hth.1 hth.2) fun (a : TAk) ha=>?_
 rw [← ha]
 have hf:=Mn F.re F.ft
 have hre:=BX F.re
 have hrg:=fun z=>FI h.inv F z
 rw [← ha] at hf hrg
 have n0:=h.inv.n0
 change 0 ≤ f.now at n0
 have hnow : (aF f).FD = f.now:=rfl
 have hend : (aF f).CF = f.ended:=rfl
 -- no,shut,time
 have no : 5 ≤ e.Kind ∧ e.Kind ≤ 7 → D_f16.wp (a,f) fun y=>y = GR (CP (aF f) e.Ring) (aA a):=fun z=>by
  obtain ⟨r1,r2,_⟩:=hrg (BW.2 (by omega))
  have hr : a.Ring = e.Ring:=hf.rg (BW.2 (by omega))
  have h5:=hf.f5 z
  rw [← hr]
  rw [← hr] at r1 r2
  exact LD h a r1 fun w=>r2 (.inl (h5.resolve_left w))
 have nd : 5 ≤ e.Kind ∧ e.Kind ≤ 7 ∨ e.Kind = 1 → (A0 e.Ring f.rings.n = true ∧ (((Nat.beq f.rings.n f.rings.n) && true) && (!(f.rings.get e.Ring.toNat).nil)) = true ∧ ((true && true) && (((Nat.beq f.rings.n f.rings.n) && (Nat.blt e.Ring.toNat f.rings.n)) && (!(f.rings.get e.Ring.toNat).nil))) = true ∧ CP (aF f) e.Ring = aR (f.rings.get e.Ring.toNat).x):=fun z=>by
  obtain ⟨r1,_,_⟩:=hrg (BW.2 (by omega))
  obtain ⟨_,hnil,hrn⟩:=h.ring r1.1 r1.2
  exact ⟨by rw [ibI]; omega,by simp [hnil],by simp [hnil]; omega,hrn⟩
 have nd2 : ((true && true) && (Nat.beq f.rings.n f.rings.n)) = true:=by simp
 unfold H3
 simp only
 rw [hnow,hend]
 refine AE ieI (fun k5=>?_) fun n5=>AE ieI (fun k7=>?_) fun n7=>AE ieI (fun k6=>?_) fun n6=>?_
 · rw [if_pos (.inl k5)]
   obtain ⟨d1,d2,d3,d4⟩:=nd (.inl (by omega))
   refine wC (no (by omega)) fun (y : Bool) hy=>?_
   subst hy
   refine BM (fun z=>wN d1 (wN d2 (wC (DT _) fun (y : Bool) hy=>Dr d3 nd2 ?_))) fun z=>?_
   · rw [z,d4,hy]; rfl
   · rw [show GR (CP (aF f) e.Ring) (aA a) = false by simpa using z]; rfl
 · rw [if_pos (.inr k7)]
   obtain ⟨d1,d2,d3,d4⟩:=nd (.inl (by omega))
   refine wC (no (by omega)) fun (y : Bool) hy=>?_
   subst hy
   refine BM (fun z=>wN d1 (wN d2 (wC (DT _) fun (y : Bool) hy=>Dr d3 nd2 ?_))) fun z=>?_
   · rw [z,d4,hy]; rfl
   · rw [show GR (CP (aF f) e.Ring) (aA a) = false by simpa using z]; rfl
 · rw [if_neg (by omega),if_pos k6]
   obtain ⟨d1,d2,d3,d4⟩:=nd (.inl (by omega))
   refine wC (no (by omega)) fun (y : Bool) hy=>?_
   subst hy
   refine BM (fun z=>wN d1 (wN d2 (wC (DT _) fun (y : Bool) hy=>Dr d3 nd2 ?_))) fun z=>?_
   · rw [z,d4,hy]; rfl
   · rw [show GR (CP (aF f) e.Ring) (aA a) = false by simpa using z]; rfl
 · rw [if_neg (by omega),if_neg n6]
   refine A5 (g:=Prod.fst) ieI (fun _=>?_) fun n8=>A5 (g:=Prod.fst) ieI (fun _=>rfl) fun n10=>?_
   · have:=he.vl
     refine AE leI (fun z=>?_) fun z=>(decide_eq_false fun w=>z w.1).symm
     rw [Aj (by have:=this.1; omega) (by have:=this.2; omega)]
     exact BQ (by rw [decide_eq_true_eq]; exact ilI.trans ⟨fun w=>⟨z,w⟩,fun w=>w.2⟩)
   · have tu : Au e.Kind = true → D_f1d.wp (e,(a,f)) fun y=>y = Ca (CP (aF f) e.Ring) (aA a) e:=fun z=>by
      obtain ⟨r1,_,r2⟩:=hrg (B2 z)
      exact LC h a r1 r2 he.tk.1
     refine A5 (g:=Prod.fst) ieI (fun k1=>?_) fun n1=>of_wp ?_
     · obtain ⟨d1,d2,d3,d4⟩:=nd (.inr k1)
       refine wC (tu (Am.2 (by omega))) fun (y : Bool) hy=>?_
       subst hy
       refine BM (fun z=>wN d1 (wN d2 (wC (DT _) fun (y : Bool) hy=>Dr d3 nd2 ?_))) fun z=>?_
       · rw [z,d4,hy]; rfl
       · rw [show Ca (CP (aF f) e.Ring) (aA a) e = false by simpa using z]; rfl
     · simp only [tt_fe_16]
       refine wC (w_f2z hre.1.1) fun (y : Bool) hy=>?_
       subst hy
       refine AE bnI (fun z=>?_) fun z=>?_
       · rw [show Au e.Kind = false by simpa using z]; rfl
       · have z:=Classical.byContradiction z
         rw [z]
         exact wC (tu z) fun y hy=>hy
end
theorem RZ {α : Type} {T T' : Sl α} (h2 : T.n = T'.n) (h3 : ∀ i,T.get i = T'.get i) : T.L = T'.L:=Sl.Sy h2 fun i _=>h3 i
section
variable {c : TRg} {b : Int} {r : TRr}
theorem NK (h : RC c b r) {t v : Int} (h0 : 0 ≤ t) (h1 : t < 4611686018427387904) (hst : (Av (aR r) t).AO = 2 * t) :
 D_f31.wp (t,(v,r.s.x)) fun y=>y.2.l.L = r.s.x.l.L.set (GX (aR r) t) ⟨2 * t + 1,v,2 ^ r.AA.AD.n - 1⟩ ∧ y.2.AW = r.s.x.AW ∧ Ce y.2.l ∧ y.2.l.n = r.s.x.l.n:=by
 have hn:=h.hn
 rw [Fi h] at hst
 refine of_wp ?_
 simp only [tt_f31]
 refine AE leI (fun q=>by omega) fun _=>wC (Jp h h0 _ _) fun (y : Nat × Nat) hy=>?_
 subst hy
 refine wN (by simp) (wC (w_f2u t h0 (by omega)) fun (y : Int) hy=>?_)
 subst hy
 refine AE (p:=(r.s.x.l.get (GX (aR r) t)).AO < 2 * t) ilI (fun q=>by omega) fun _=>wN (by simp) (wC (w_f2u t h0 (by omega)) fun (y : Int) hy=>?_)
 subst hy
 refine AE (p:=2 * t < (r.s.x.l.get (GX (aR r) t)).AO) ilI (fun q=>by omega) fun _=>wC (w_f3a h0 h1) fun (y : Int) hy=>?_
 subst hy
 have hrd:=h.wf.rd
 have hp8:=Hw (j:=r.AA.AD.n) hn.2.1
 have hpp:=Fk r.AA.AD.n
 refine wN (by rw [leI,hrd]; omega) (wN (by simp) (wN (by simp) ⟨?_,rfl,h.wf.lz,rfl⟩))
 rw [← F6]
 refine RZ rfl fun i=>?_
 have e : IntKind.i64.wrap (shl IntKind.i64 1 r.s.x.AW - 1) = 2 ^ r.AA.AD.n - 1:=by
  rw [hrd,JK (by omega) (by omega),show c.AU.toNat = r.AA.AD.n by omega,wrap64 (by omega) (by omega)]
 show (⟨_,_,cond _ (IntKind.i64.wrap (shl IntKind.i64 1 r.s.x.AW - 1)) _⟩ : TSo) = cond (Nat.beq i _) _ _
 rw [e]
 cases Nat.beq i (GX (aR r) t) <;> rfl
theorem NL (h : RC c b r) {j t : Int} (hj0 : 0 ≤ j) (hj : j < r.AA.AD.n) (h0 : 0 ≤ t) (h1 : t < 2305843009213693952) (hg : (Av (aR r) t).AO = 2 * t + 1 ∧ DE (Av (aR r) t).Left j = true) :
 D_f32.wp (j,(t,r.s.x)) fun y=>y.1 = (Av (aR r) t).Value ∧ y.2.2.l.L = r.s.x.l.L.set (GX (aR r) t) (Kf (Av (aR r) t) j t (He (aR r))) ∧ y.2.2.AW = r.s.x.AW ∧ Ce y.2.2.l ∧ y.2.2.l.n = r.s.x.l.n:=by
 have hn:=h.hn
 have hl:=h.ln
 have hs:=h.slot t
 refine of_wp ?_
 simp only [tt_f32]
 refine wC (JG h hj0 hj h0 (by omega)) fun (y : Int) hy=>?_
 refine AE (p:=y ≠ 0) (by rw [bnI,ieI]) (fun q=>absurd (hy.2 hg) q) fun _=>wC (Jp h h0 _ _) fun (y : Nat × Nat) hy=>?_
 subst hy
 rw [Fi h] at hg ⊢
 rw [Mw]
 obtain ⟨g1,g2⟩:=hg
 simp only [Nat.beq_refl,cond_true]
 generalize hx : r.s.x.l.get (GX (aR r) t) = x at hs g1 g2
 have hheld:=hs.held (by omega)
 have h28:=Hw (j:=r.AA.AD.n) hn.2.1
 obtain ⟨jn,rfl⟩ : ∃ jn : Nat,j = jn:=⟨j.toNat,by omega⟩
 obtain ⟨hcl,hcl0⟩:=JR (j:=jn) (x:=x.Left) (by omega) (by omega) (by omega) g2
 rw [hcl,Aj (z:=(r.s.x.l.n : Int)) (by omega) (by omega),Aj (z:=t + (r.s.x.l.n : Int)) (by omega) (by omega)]
 have n1 : (true && (Nat.beq r.s.x.l.n r.s.x.l.n)) = true:=by simp
 refine wN (by simp) (wN (by simp) (wN (by rw [leI]; exact hj0) (wN (by simp) (wN (by simp) (AE ieI (fun e=>?_) fun e=>?_)))))
 · refine wC (w_f2u (t + (r.s.x.l.n : Int)) (by omega) (by omega)) fun (y : Int) hy=>wN (by simp) (wN (by simp) ⟨rfl,?_,rfl,h.wf.lz,rfl⟩)
   subst hy
   rw [← F6]
   refine RZ rfl fun i=>?_
   unfold Kf
   rw [Int.toNat_natCast,if_pos e]
   show (⟨_,_,_⟩ : TSo) = cond (Nat.beq i _) _ _
   cases Nat.beq i (GX (aR r) t) <;> rfl
 · refine wN (by simp) ⟨rfl,?_,rfl,h.wf.lz,rfl⟩
   rw [← F6]
   refine RZ rfl fun i=>?_
   unfold Kf
   rw [Int.toNat_natCast,if_neg e]
   show (⟨_,_,_⟩ : TSo) = cond (Nat.beq i _) _ _
   cases Nat.beq i (GX (aR r) t) <;> rfl
theorem J6 (h : RC c b r) {t v : Int} (h0 : 0 ≤ t) (hf : GU (aR r) t = true) : D_f2p.wp (t,(v,r)) fun y=>P7 c y.2 ∧ aR y.2 = Nu (aR r) t v:=by
 have ht:=h.t
 simp only [GU,decide_eq_true_eq] at hf
 have hlt : t < r.AA.tail:=hf.1
 refine of_wp ?_
 simp only [tt_f2p]
 refine AE leI (fun q=>by omega) fun _=>wN (by simp [h.wf.sn]) (wC (NK h h0 (by omega) hf.2) fun (y : Int × TSs) hy=>⟨⟨rfl,hy.2.1.trans h.wf.rd,h.wf.ms,h.wf.hz,hy.2.2.1,h.wf.hn,?_⟩,?_⟩)
 · show (y.2.l.n : Int) = _; rw [hy.2.2.2]; exact h.wf.ln
 · show (⟨_,_,_,y.2.l.L⟩ : MR) = _
   rw [hy.1]
   unfold Nu
   simp [aR]
theorem J5 (h : RC c b r) (hb : b ≤ 2305843009213693952) {j t : Int} (hj0 : 0 ≤ j) (hj : j < r.AA.AD.n) (h0 : 0 ≤ t) (hh : Ke (aR r) j t = true) :
 D_f2q.wp (j,(t,r)) fun y=>y.1 = (Av (aR r) t).Value ∧ P7 c y.2.2 ∧ aR y.2.2 = Qk (aR r) j t:=by
 have htb:=h.inv.tb
 change r.AA.tail < b at htb
 have hd:=h.hd (k:=j.toNat) (by omega)
 simp only [Ke,decide_eq_true_eq,Ls hj0 hj] at hh
 refine of_wp ?_
 simp only [tt_f2q]
 refine wC (W4 j r.AA) fun (y : Bool) hy=>?_
 refine AE bnI (fun q=>absurd (hy.2 ⟨hj0,hj⟩) q) fun _=>wN (by rw [ibI]; exact ⟨hj0,hj⟩) (wN (by simp) ?_)
 rw [Nat.zero_add]
 refine AE leI (fun q=>by omega) fun _=>wN (by simp) (wN (by simp [h.wf.sn]) (wC (NL h hj0 hj h0 (by omega) hh.2) fun (y : Int × Int × TSs) hy=>⟨hy.1,⟨rfl,hy.2.2.1.trans h.wf.rd,h.wf.ms,h.wf.hz,hy.2.2.2.1,h.wf.hn,?_⟩,?_⟩))
 · show (y.2.2.l.n : Int) = _; rw [hy.2.2.2.2]; exact h.wf.ln
 · show (⟨_,_,_,y.2.2.l.L⟩ : MR) = _
   rw [hy.2.1]
   rfl
theorem NN (h : RC c b r) {j : Int} (hj0 : 0 ≤ j) (hj : j < r.AA.AD.n) (he : DN (aR r) j = false) : D_f1b.wp (j,r) fun y=>P7 c y.2.2 ∧ aR y.2.2 = E2 (aR r) j:=by
 have hn:=h.hn
 have ht:=h.t
 have hd:=h.hd (k:=j.toNat) (by omega)
 refine of_wp ?_
 simp only [tt_f1b]
 refine wC (W4 j r.AA) fun (y : Bool) hy=>?_
 refine AE bnI (fun q=>absurd (hy.2 ⟨hj0,hj⟩) q) fun _=>wC (Em j hj0 hj) fun (y : Bool) hy=>?_
 subst hy
 rw [he]
 refine BM (fun q=>by cases q) fun _=>wC (Em j hj0 hj) fun (y : Bool) hy=>?_
 subst hy
 rw [he]
 refine BM (fun q=>by cases q) fun _=>of_wp ?_
 simp only [tt_f1b_9,Nat.zero_add]
 have i1 : A0 j r.AA.AD.n = true:=by rw [ibI]; exact ⟨hj0,hj⟩
 have n1 : ((Nat.beq r.AA.AD.n r.AA.AD.n) && true) = true:=by simp
 have n2 : ((true && true) && (Nat.beq r.AA.AD.n r.AA.AD.n)) = true:=by simp
 refine wN i1 (wN n1 (wN i1 (wN n1 (wN n2 (wN i1 (wN n1 (wN n2 ⟨⟨h.wf.sn,h.wf.rd,h.wf.ms,h.wf.hz,h.wf.lz,h.wf.hn,h.wf.ln⟩,?_⟩)))))))
 unfold E2
 rw [Ls hj0 hj]
 show (⟨_,Sl.L _,_,_⟩ : MR) = ⟨_,r.AA.AD.L.set _ _,_,_⟩
 rw [← F6]
 congr 1
 refine RZ rfl fun i=>?_
 show cond (Nat.beq i j.toNat) (IntKind.u64.wrap (r.AA.AD.get j.toNat + 1)) _ = cond _ _ _
 rw [Aj (by omega) (by omega)]
theorem MB (r : TRr) : D_f34.wp r fun y=>y = (0,{ r with closed:=true }):=of_wp rfl
theorem MC (h : RC c b r) : D_f30.wp r fun y=>(r.closed = true ∧ y = (0,(10,r))) ∨ (r.closed = false ∧ EA (aR r) = true ∧ y = (0,(8,r))) ∨
 (r.closed = false ∧ EA (aR r) = false ∧ y.2.1 = 0 ∧ y.2.2 = { r with AA:=⟨r.AA.tail + 1,r.AA.AD⟩ }):=by
 have ht:=h.t
 refine of_wp ?_
 simp only [tt_f30]
 refine BM (fun q=>.inl ⟨q,rfl⟩) fun q=>wC (Gd h) fun (y : Bool) hy=>?_
 have q : r.closed = false:=by simpa using q
 subst hy
 refine BM (fun q2=>.inr (.inl ⟨q,q2,rfl⟩)) fun q2=>.inr (.inr ⟨q,by simpa using q2,rfl,?_⟩)
 rw [Aj (z:=r.AA.tail + 1) (by omega) (by omega)]
theorem Pn {s : TRs} (hc : A1 c = true) (h : C7 c b (K7 s)) (hb : b ≤ 4611686018427387904) (hz : Ce s.AY) (sz : Ce s.Ao) : Uy s:=by
 have hf:=CY hc
 have c1:=h.cap
 have c2:=h.rd
 simp only [K7,Sl.A8] at c1 c2
 have t0:=h.t0
 have tb:=h.tb
 change 0 ≤ s.Aq at t0
 change s.Aq < b at tb
 have m64 : (64 : Nat) ≤ maxLen:=by decide
 refine ⟨t0,by omega,by omega,fun j hj=>?_,hz,⟨by omega,fun i hi=>?_,sz⟩⟩
 · have:=h.h0 _ (Sl.CZ.2 ⟨j,hj,rfl⟩)
   change 0 ≤ s.AY.get j ∧ s.AY.get j ≤ s.Aq ∧ _ at this
   omega
 · have hs:=h.sl i (s.Ao.get i) (Sl.DH _ hi)
   have h8:=Hw (j:=(K7 s).AY.length) (by simp [K7]; omega)
   have h0:=hs.s0
   have h1:=hs.s1
   have hl : 0 ≤ (s.Ao.get i).Left ∧ (s.Ao.get i).Left < 256:=by
    rcases (by omega : (s.Ao.get i).AO % 2 = 0 ∨ (s.Ao.get i).AO % 2 = 1) with e | e
    · have:=hs.free e; omega
    · have:=hs.held e; omega
   exact ⟨h0,by omega,by omega,by omega⟩
theorem Na {s : TRs} (hc : A1 c = true) (h : C7 c b (K7 s)) (hb : b ≤ 4611686018427387904) : Rh c s:=by
 have hf:=CY hc
 have c1:=h.cap
 have c2:=h.rd
 simp only [K7,Sl.A8] at c1 c2
 have tb:=h.tb
 change s.Aq < b at tb
 have hnr : (K7 s).AY.length = c.AU.toNat:=by simp [K7]; omega
 refine ⟨⟨c1,fun i hi=>?_⟩,c2,by omega,fun j hj=>?_,fun i hi=>?_⟩
 · have hs:=h.sl i (s.Ao.get i) (Sl.DH _ hi)
   exact ⟨hs.s1,hs.Uq,hs.free,fun e=>by have:=hs.held e; rw [hnr] at this; exact this⟩
 · have:=h.h0 _ (Sl.CZ.2 ⟨j,hj,rfl⟩)
   exact this.2
 · have hs:=h.sl i (s.Ao.get i) (Sl.DH _ hi)
   refine ⟨hs.Pu,fun j hj=>⟨fun e1 e2=>hs.Th e1 j _ (Sl.DH _ hj) e2,fun e1 e2=>hs.SW e1 e2 _ (Sl.CZ.2 ⟨j,hj,rfl⟩)⟩⟩
end
structure RU (p : TPg) (rs rs' : Sl (Bx TRr)) (i : Nat) (m : MR) : Prop where
 n : rs'.n = rs.n
 ot : ∀ j,j ≠ i → rs'.get j = rs.get j
 nl : (rs'.get i).nil = false
 wf : P7 (p.AJ.get i) (rs'.get i).x
 eq : aR (rs'.get i).x = m
theorem Lg {p : TPg} {rs rs' : Sl (Bx TRr)} {i : Nat} {m : MR} (z : Bx TRr) (h1 : rs'.n = rs.n) (h2 : ∀ j,rs'.get j = cond (Nat.beq j i) z (rs.get j)) (h3 : z.nil = false) (h4 : P7 (p.AJ.get i) z.x) (h5 : aR z.x = m) : RU p rs rs' i m:=by
 have hi : rs'.get i = z:=by rw [h2,Nat.beq_refl]; rfl
 exact ⟨h1,fun j hj=>by rw [h2,JE hj]; rfl,by rw [hi]; exact h3,by rw [hi]; exact h4,by rw [hi]; exact h5⟩
theorem RU.L {p : TPg} {rs rs' : Sl (Bx TRr)} {i : Nat} {m : MR} (h : RU p rs rs' i m) : rs'.L.map (fun r=>aR r.x) = (rs.L.map fun r=>aR r.x).set i m:=by
 apply List.ext_getElem
 · simp [h.n]
 · intro j h1 h2
   have hj : j < rs.n:=by simpa [h.n] using h1
   simp only [List.getElem_map,Sl.GP]
   by_cases e : j = i
   · subst e; rw [List.getElem_set_self,h.eq]
   · rw [List.getElem_set_ne (fun q=>e q.symm)]
     simp only [List.getElem_map,Sl.GP,h.ot j e]
section
variable {p : TPg} {B : Int} {k : Nat} {f : TFa} {e : TEv}
theorem J8 (h : FC p B k f) {i : Int} (h0 : 0 ≤ i) (h1 : i < p.AJ.n) (hF : EA (CP (aF f) i) = false) :
 D_f2d.wp (i,f) fun y=>∃ rs,y = ⟨f.p,f.threads,rs,f.now,f.reads,f.ended⟩ ∧ RU p f.rings rs i.toNat { CP (aF f) i with Aq:=(CP (aF f) i).Aq + 1 }:=by
 obtain ⟨hC,hnil,hrn⟩:=h.ring h0 h1
 have hfr:=h.wf.rn
 have hi : i.toNat < p.AJ.n:=by omega
 rw [hrn] at hF ⊢
 have nd : ((true && true) && ((Nat.beq f.rings.n f.rings.n) && (Nat.blt i.toNat f.rings.n))) = true:=by simp; omega
 have nd2 : ((true && true) && (Nat.beq f.rings.n f.rings.n)) = true:=by simp
 have ib : A0 i f.rings.n = true:=by rw [ibI]; omega
 refine of_wp ?_
 simp only [tt_f2d,Nat.zero_add]
 refine wN ib (wN (by simp [hnil]) (wC (MC hC) fun (y : Int × Int × TRr) hy=>wN nd (Co (wN nd2 ?_))))
 rcases hy with ⟨hcl,rfl⟩ | ⟨_,hfl,_⟩ | ⟨hcl,_,hy0,hyr⟩
 · refine AE (p:=(10 : Int) ≠ 10) (by rw [bnI,ieI]) (fun q=>absurd rfl q) fun _=>?_
   simp only [Nat.beq_refl,cond_true]
   have hc:=hC.rg
   refine wN ib (wN (by simp) (wC (Hf (p.AJ.get i.toNat) _ hc hC.wf) fun (s : TRs) hs=>wN (by simp; omega) (Co (wN (by simp) ?_))))
   obtain ⟨e1,e2,e3⟩:=hs
   have hcp:=h.wf.cp
   have hI:=hC.inv.T8 hF
   have ht:=hC.t
   have hT : s.Aq = (f.rings.get i.toNat).x.AA.tail:=congrArg MR.Aq e1
   have hb:=h.hB
   rw [Aj (z:=s.Aq + 1) (by rw [hT]; omega) (by rw [hT]; omega),hcp.r.g _ hi]
   have es : K7 ⟨s.Aq + 1,s.AY,s.Aw,s.Ao⟩ = { aR (f.rings.get i.toNat).x with Aq:=(aR (f.rings.get i.toNat).x).Aq + 1 }:=by
    rw [← e1]; rfl
   rw [← es] at hI
   refine wN (by rw [ibI,hcp.r.n]; omega) (wC (w_fc (p.AJ.get i.toNat) ⟨s.Aq + 1,s.AY,s.Aw,s.Ao⟩ hc (Pn hc hI (by omega) e2 e3)) fun (z : Bx TRr × Int) hz=>?_)
   rcases hz with ⟨_,z2,zn,zw,za⟩ | ⟨hno,_⟩
   rotate_left
   · exact absurd (Na hc hI (by omega)) hno
   refine AE ieI (fun _=>wN ib (wN (by simp) (wN (by simp) ⟨_,rfl,Lg z.1 rfl (fun j=>?_) zn zw (za.trans es)⟩))) fun q=>absurd z2 q
   show (⟨_,_⟩ : Bx TRr) = cond (Nat.beq j _) _ _
   cases Nat.beq j i.toNat <;> rfl
 · rw [hF] at hfl; cases hfl
 · refine AE (p:=y.2.1 ≠ 10) (by rw [bnI,ieI]) (fun _=>⟨_,rfl,Lg ⟨false,y.2.2⟩ rfl (fun j=>?_) rfl ?_ ?_⟩) fun q=>absurd (by rw [hy0]; decide) q
   · show (⟨_,_⟩ : Bx TRr) = cond (Nat.beq j _) _ _
     cases Nat.beq j i.toNat <;> rfl
   · show P7 _ y.2.2
     rw [hyr]
     exact ⟨hC.wf.sn,hC.wf.rd,hC.wf.ms,hC.wf.hz,hC.wf.lz,hC.wf.hn,hC.wf.ln⟩
   · show aR y.2.2 = _
     rw [hyr]; rfl
theorem Qq (h : FC p B k f) (he : O3 e) (F : DF (aP p) (aF f) e) (v : Int) (hv : CD v) (hve : v = if e.Kind = 4 then (Av (CP (aF f) e.Ring) e.AG).Value else 0) (rs : Sl (Bx TRr)) (now rd : Int) (en : Bool) :
 D_fh_20.wp (⟨e,v,⟨f.p,f.threads,rs,now,rd,en⟩⟩ : X_fh_20) fun y=>∃ ts,y = ⟨f.p,ts,rs,now,rd,en⟩ ∧ ts.n = f.threads.n ∧ ts.L.map aT = (D2 (aP p) (aF f) e).AB ∧ ∀ t,t < ts.n → Dq (k + 1) (ts.get t):=by
 obtain ⟨h0,h1⟩:=EJ h.inv F
 obtain ⟨c1,c2,c3,c4⟩:=h.code h0 h1
 have htn:=h.wf.tn
 have hk:=h.hk
 have hT:=h.Hk h0 h1
 rw [← c3] at hT
 have hcr:=Ft h.inv h0 h1
 rw [← D0 h0 h1,← c3] at hcr
 refine of_wp ?_
 simp only [tt_fh_20,Nat.zero_add]
 have ib : A0 e.Thread f.threads.n = true:=by rw [ibI]; omega
 refine wN (by rw [ibI]; omega) (wN ib (wN (by simp) (wC (w_f2b _ _ _ e v k (by omega) c1 c2 hcr hT (h.wf.tw _ (by omega)) hv he.vl he.tk.1) fun (y : TTh × Int) hy=>wN ib (wN (by simp) (wN (by simp) ?_)))))
 have hd : Qm (f.p.AB.get e.Thread.toNat).L (aT (f.threads.get e.Thread.toNat)) e = 0:=by
  unfold Qm
  have hft:=F.ft
  have ha0:=F.a0
  unfold A2 at hft ha0
  rw [F5 h0 (by omega),← c3] at hft ha0
  rw [if_neg (by rw [F.re]; simp),if_neg (by rw [hft]; simp [ha0])]
 obtain ⟨hy1,hy2⟩:=hy.2 hd
 have hts : ∀ {T : Sl TTh},T.n = f.threads.n → (∀ j,T.get j = cond (Nat.beq j e.Thread.toNat) y.1 (f.threads.get j)) → T.L.map aT = (D2 (aP p) (aF f) e).AB ∧ ∀ t,t < T.n → Dq (k + 1) (T.get t):=fun {T} e1 e2=>by
  refine ⟨?_,fun t ht=>?_⟩
  · have : T.L = f.threads.L.set e.Thread.toNat y.1:=by rw [← F6]; exact RZ e1 e2
    rw [this,map_set,hy1]
    unfold D2
    simp only
    rw [F5 h0 (by omega),← c3,hve]
    rfl
  · rw [e2]
    by_cases q : t = e.Thread.toNat
    · subst q; rw [Nat.beq_refl]; exact hy2
    · rw [JE q]; exact (h.wf.tw t (by omega)).grow (by omega)
 refine ⟨_,rfl,rfl,hts rfl fun j=>?_⟩
 show (⟨_,_,_,_,_,_,_⟩ : TTh) = cond (Nat.beq j _) _ _
 cases Nat.beq j e.Thread.toNat <;> rfl
theorem FC.VB (h : FC p B k f) {t : Int} (h0 : 0 ≤ t) (h1 : t < p.AB.n) : CD (A2 (aP p) (aF f) t).Value:=by
 have htn:=h.wf.tn
 have:=h.Hk h0 h1
 unfold A2
 rw [F5 h0 (by omega)]
 rw [D0 h0 h1] at this ⊢
 exact (Kc (Ft h.inv h0 h1) (h.hp.k (by omega)) this (h.wf.tw _ (by omega)).rg).2
theorem LF (h : FC p B k f) (he : O3 e) (F : DF (aP p) (aF f) e) (ht : Au e.Kind = true → Ca (CP (aF f) e.Ring) (A2 (aP p) (aF f) e.Thread) e = true) (hB : B + 1 ≤ 2305843009213693952) (hk : k + 1 ≤ 1000000000) :
 D_fh.wp (e,f) fun y=>aF y = D2 (aP p) (aF f) e ∧ FC p (B + 1) (k + 1) y:=by
 obtain ⟨t0,t1⟩:=EJ h.inv F
 have hfr:=h.wf.rn
 have htn:=h.wf.tn
 have hre:=BX F.re
 have hI:=Kl h.inv h.hB he.tk.1 F ht
 have hU:=L6 h.uv (h.VB t0 t1)
 refine of_wp ?_
 simp only [tt_fh,Nat.zero_add]
 refine wC (F4 h t0 t1) fun (a : TAk) ha=>?_
 -- the end of all ways
 have fin : ∀ (v : Int) (rs : Sl (Bx TRr)) (now rd : Int) (en : Bool),CD v → v = (if e.Kind = 4 then (Av (CP (aF f) e.Ring) e.AG).Value else 0) → rs.n = p.AJ.n → (∀ i,i < rs.n → (rs.get i).nil = false ∧ P7 (p.AJ.get i) (rs.get i).x) →
  rs.L.map (fun r=>aR r.x) = (D2 (aP p) (aF f) e).AJ → now = (D2 (aP p) (aF f) e).FD → rd = (D2 (aP p) (aF f) e).Reads → en = (D2 (aP p) (aF f) e).CF →
  D_fh_20.wp (⟨e,v,⟨f.p,f.threads,rs,now,rd,en⟩⟩ : X_fh_20) fun y=>aF y = D2 (aP p) (aF f) e ∧ FC p (B + 1) (k + 1) y:=fun v rs now rd en hv hve r1 r2 r3 e1 e2 e3=>by
  refine (Qq h he F v hv hve rs now rd en).mono fun y hy=>?_
  obtain ⟨ts,rfl,n1,n2,n3⟩:=hy
  have ea : aF ⟨f.p,ts,rs,now,rd,en⟩ = D2 (aP p) (aF f) e:=by
   show (⟨_,_,_,_,_⟩ : MS) = _
   rw [n2,r3,e1,e2,e3]
  exact ⟨ea,h.hp,by rw [ea]; exact hI,⟨h.wf.cp,by show ts.n = _; omega,n3,r1,r2⟩,by rw [ea]; exact hU,hB,hk⟩
 have vz : e.Kind ≠ 4 → (0 : Int) = (if e.Kind = 4 then (Av (CP (aF f) e.Ring) e.AG).Value else 0):=fun q=>by rw [if_neg q]
 have nw : e.Kind ≠ 8 → f.now = (D2 (aP p) (aF f) e).FD:=fun q=>by unfold D2; simp only; rw [if_neg q]; rfl
 have rd : e.Kind ≠ 10 → f.reads = (D2 (aP p) (aF f) e).Reads:=fun q=>by unfold D2; simp only; rw [if_neg q]; rfl
 have en : e.Kind ≠ 11 → f.ended = (D2 (aP p) (aF f) e).CF:=fun q=>by unfold D2; simp only; rw [if_neg q]; rfl
 have rgs : Au e.Kind = false → f.rings.L.map (fun r=>aR r.x) = (D2 (aP p) (aF f) e).AJ:=fun q=>by unfold D2; simp only [q,Bool.false_eq_true,if_false]; rfl
 -- with a ring
 have ring : Au e.Kind = true → ∀ (v : Int) (rs : Sl (Bx TRr)),CD v → v = (if e.Kind = 4 then (Av (CP (aF f) e.Ring) e.AG).Value else 0) → RU p f.rings rs e.Ring.toNat (Bq (CP (aF f) e.Ring) (A2 (aP p) (aF f) e.Thread) e) →
  D_fh_20.wp (⟨e,v,⟨f.p,f.threads,rs,f.now,f.reads,f.ended⟩⟩ : X_fh_20) fun y=>aF y = D2 (aP p) (aF f) e ∧ FC p (B + 1) (k + 1) y:=fun q v rs hv hve hu=>by
  have h1:=Am.1 q
  refine fin v rs _ _ _ hv hve (by rw [hu.n]; exact hfr) (fun i hi=>?_) ?_ (nw (by omega)) (rd (by omega)) (en (by omega))
  · by_cases z : i = e.Ring.toNat
    · subst z; exact ⟨hu.nl,hu.wf⟩
    · rw [hu.ot i z]; exact h.wf.rw i (by rw [← hu.n]; exact hi)
  · rw [hu.L]
    unfold D2
    simp only [q,if_true]
    rfl
 have tk:=fun z=>Am (k:=e.Kind).2 z
 have info:=fun (q : Au e.Kind = true)=>by
  obtain ⟨r1,_,r2⟩:=FI h.inv F (B2 q)
  obtain ⟨hC,hnil,hrn⟩:=h.ring r1.1 r1.2
  exact (⟨r1,by rw [ha]; exact r2,hC,hnil,hrn,by rw [ibI]; omega,by simp [hnil],by simp; omega⟩ : (0 ≤ e.Ring ∧ e.Ring < p.AJ.n) ∧ (e.Kind = 3 ∨ e.Kind = 4 → 0 ≤ (aA a).Reader ∧ (aA a).Reader < (p.AJ.get e.Ring.toNat).AU) ∧ RC (p.AJ.get e.Ring.toNat) B (f.rings.get e.Ring.toNat).x ∧ (f.rings.get e.Ring.toNat).nil = false ∧ CP (aF f) e.Ring = aR (f.rings.get e.Ring.toNat).x ∧ A0 e.Ring f.rings.n = true ∧
   (((Nat.beq f.rings.n f.rings.n) && true) && (!(f.rings.get e.Ring.toNat).nil)) = true ∧ ((true && true) && ((Nat.beq f.rings.n f.rings.n) && (Nat.blt e.Ring.toNat f.rings.n))) = true)
 have nd2 : ((true && true) && (Nat.beq f.rings.n f.rings.n)) = true:=by simp
 rw [← ha] at ht
 refine AE ieI (fun k1=>?_) fun n1=>AE ieI (fun k2=>?_) fun n2=>AE ieI (fun k3=>?_) fun n3=>AE ieI (fun k4=>?_) fun n4=>AE ieI (fun k13=>?_) fun n13=>?_
 · have q:=tk (by omega)
   obtain ⟨r1,_⟩:=info q
   have hT:=ht q
   unfold Ca at hT
   rw [if_pos k1] at hT
   simp only [Bool.and_eq_true,Bool.not_eq_true',decide_eq_true_eq] at hT
   refine wC (J8 h r1.1 r1.2 hT.1) fun (y : TFa) hy=>?_
   obtain ⟨rs,rfl,hu⟩:=hy
   refine ring q 0 rs CE (vz (by omega)) ?_
   unfold Bq
   rw [if_pos k1]; exact hu
 · have q:=tk (by omega)
   obtain ⟨r1,r2,hC,hnil,hrn,d1,d2,d3⟩:=info q
   have hT:=ht q
   unfold Ca at hT
   rw [if_neg n1,if_pos k2,hrn] at hT
   refine wN d1 (wN d2 (wC (J6 hC he.tk.1 hT) fun (y : Int × TRr) hy=>wN d3 (Co (wN nd2 (ring q 0 _ CE (vz (by omega)) (Lg ⟨false,y.2⟩ rfl (fun j=>?_) rfl hy.1 ?_))))))
   · show (⟨_,_⟩ : Bx TRr) = cond (Nat.beq j _) _ _
     cases Nat.beq j e.Ring.toNat <;> rfl
   · unfold Bq
     rw [if_neg n1,if_pos k2,hrn,← ha]; exact hy.2
 · have q:=tk (by omega)
   obtain ⟨r1,r2,hC,hnil,hrn,d1,d2,d3⟩:=info q
   have hT:=ht q
   unfold Ca at hT
   rw [if_neg n1,if_neg n2,if_pos k3,hrn] at hT
   simp only [Bool.and_eq_true,Bool.not_eq_true',decide_eq_true_eq] at hT
   obtain ⟨j0,j1⟩:=r2 (.inl k3)
   have hn:=hC.hn
   refine wN d1 (wN d2 (wC (NN hC (j:=a.Reader) j0 (by show (aA a).Reader < _; omega) hT.1) fun (y : Int × Int × TRr) hy=>wN d3 (Co (wN nd2 (ring q 0 _ CE (vz (by omega)) (Lg ⟨false,y.2.2⟩ rfl (fun j=>?_) rfl hy.1 ?_))))))
   · show (⟨_,_⟩ : Bx TRr) = cond (Nat.beq j _) _ _
     cases Nat.beq j e.Ring.toNat <;> rfl
   · unfold Bq
     rw [if_neg n1,if_neg n2,if_pos k3,hrn,← ha]; exact hy.2
 · have q:=tk (by omega)
   obtain ⟨r1,r2,hC,hnil,hrn,d1,d2,d3⟩:=info q
   have hT:=ht q
   unfold Ca at hT
   rw [if_neg n1,if_neg n2,if_neg n3,if_pos k4,hrn] at hT
   obtain ⟨j0,j1⟩:=r2 (.inr k4)
   have hn:=hC.hn
   refine wN d1 (wN d2 (wC (J5 hC h.hB (j:=a.Reader) j0 (by show (aA a).Reader < _; omega) he.tk.1 hT) fun (y : Int × Int × TRr) hy=>wN d3 (Co (wN nd2 (ring q _ _ ?_ ?_ (Lg ⟨false,y.2.2⟩ rfl (fun j=>?_) rfl hy.2.1 ?_))))))
   · rw [hy.1,← hrn]; exact HP (MO h.uv _) _
   · rw [hy.1,← hrn,if_pos k4]
   · show (⟨_,_⟩ : Bx TRr) = cond (Nat.beq j _) _ _
     cases Nat.beq j e.Ring.toNat <;> rfl
   · unfold Bq
     rw [if_neg n1,if_neg n2,if_neg n3,if_pos k4,hrn,← ha]; exact hy.2.2
 · have q:=tk (by omega)
   obtain ⟨r1,r2,hC,hnil,hrn,d1,d2,d3⟩:=info q
   refine wN d1 (wN d2 (wC (MB _) fun (y : Int × TRr) hy=>wN d3 (Co (wN nd2 (ring q 0 _ CE (vz (by omega)) (Lg ⟨false,y.2⟩ rfl (fun j=>?_) rfl ?_ ?_))))))
   · show (⟨_,_⟩ : Bx TRr) = cond (Nat.beq j _) _ _
     cases Nat.beq j e.Ring.toNat <;> rfl
   · subst hy; exact ⟨hC.wf.sn,hC.wf.rd,hC.wf.ms,hC.wf.hz,hC.wf.lz,hC.wf.hn,hC.wf.ln⟩
   · subst hy
     unfold Bq
     rw [if_neg n1,if_neg n2,if_neg n3,if_neg n4,if_pos k13,hrn]; rfl
 · have q : Au e.Kind = false:=Bool.eq_false_iff.2 fun z=>by rw [Am] at z; omega
   refine AE ieI (fun k8=>?_) fun n8=>AE ieI (fun k10=>?_) fun n10=>AE ieI (fun k11=>?_) fun n11=>?_
   · refine fin 0 f.rings _ _ _ CE (vz n4) hfr h.wf.rw (rgs q) ?_ (rd (by omega)) (en (by omega))
     unfold D2; simp only; rw [if_pos k8,Tg]; rfl
   · refine fin 0 f.rings _ _ _ CE (vz n4) hfr h.wf.rw (rgs q) (nw n8) ?_ (en (by omega))
     unfold D2; simp only; rw [if_pos k10]; rfl
   · refine fin 0 f.rings _ _ _ CE (vz n4) hfr h.wf.rw (rgs q) (nw n8) (rd n10) ?_
     unfold D2; simp only; rw [if_pos k11]
   · exact fin 0 f.rings _ _ _ CE (vz n4) hfr h.wf.rw (rgs q) (nw n8) (rd n10) (en n11)
theorem FC.grow (h : FC p B k f) (hB : B + 1 ≤ 2305843009213693952) (hk : k + 1 ≤ 1000000000) : FC p (B + 1) (k + 1) f :=
 ⟨h.hp,h.inv.mono (by omega),⟨h.wf.cp,h.wf.tn,fun t ht=>(h.wf.tw t ht).grow (by omega),h.wf.rn,h.wf.rw⟩,h.uv,hB,hk⟩
theorem JI (h : FC p B k f) (he : O3 e) (hB : B + 1 ≤ 2305843009213693952) (hk : k + 1 ≤ 1000000000) : D_f2k.wp (e,f) fun y=>y.1 = (RH (aP p) (aF f) e).1 ∧ aF y.2 = (RH (aP p) (aF f) e).2 ∧ FC p (B + 1) (k + 1) y.2:=by
 refine of_wp ?_
 simp only [tt_f2k]
 refine wC (Ge h he) fun (y : Int) hy=>?_
 subst hy
 unfold RH
 refine AE (p:=Dl (aP p) (aF f) e ≠ 0) (by rw [bnI,ieI]) (fun q=>?_) fun q=>wC (ED h he) fun (y : Bool) hy=>?_
 · rw [if_pos q]; exact ⟨rfl,rfl,h.grow hB hk⟩
 · subst hy
   rw [if_neg q]
   refine AE bnI (fun q2=>?_) fun q2=>?_
   · rw [if_pos (by simpa using q2)]; exact ⟨rfl,rfl,h.grow hB hk⟩
   · have hA:=Classical.byContradiction q2
     rw [if_neg (by rw [hA]; simp)]
     obtain ⟨F,_,hm⟩:=Ci hA
     exact wC (LF h he F (fun z=>H0 (p:=aP p) hm F.re z) hB hk) fun (y : TFa) hy=>⟨rfl,hy⟩
end
section
variable {p : TPg} {B : Int} {k : Nat} {f : TFa}
theorem Hg (f : TFa) : D_f1f.wp f fun y=>y = f.now:=B3 rfl
theorem LH (h : FC p B k f) (i : Int) : D_fi.wp (i,f) fun y=>(0 ≤ i ∧ i < p.AJ.n → y.nil = false ∧ P7 (p.AJ.get i.toNat) y.x ∧ aR y.x = CP (aF f) i) ∧ (¬ (0 ≤ i ∧ i < p.AJ.n) → y.nil = true):=by
 have hfr:=h.wf.rn
 refine B3 ?_
 simp only [tt_fi]
 refine AE ilI (fun q=>⟨fun z=>by omega,fun _=>rfl⟩) fun q1=>AE leI (fun q=>wN (by simp) ⟨fun z=>by omega,fun _=>rfl⟩) fun q2=>wN (by simp) (of_wp ?_)
 have h0 : 0 ≤ i:=by omega
 have h1 : i < p.AJ.n:=by omega
 obtain ⟨hC,hnil,hrn⟩:=h.ring h0 h1
 have hi : i.toNat < p.AJ.n:=by omega
 have hcp:=h.wf.cp
 have hb:=h.hB
 simp only [tt_fi_3,Nat.zero_add]
 refine wN (by rw [ibI,hcp.r.n]; omega) (wN (by rw [ibI]; omega) (wN (by simp [hnil]) (wC (Hf (p.AJ.get i.toNat) _ hC.rg hC.wf) fun (s : TRs) hs=>?_)))
 obtain ⟨e1,e2,e3⟩:=hs
 rw [hcp.r.g _ hi]
 have hI:=hC.inv
 rw [← e1] at hI
 refine wC (w_fc (p.AJ.get i.toNat) s hC.rg (Pn hC.rg hI (by omega) e2 e3)) fun (z : Bx TRr × Int) hz=>wN (by simp [hnil]; omega) (Co (wN (by simp) ?_))
 rcases hz with ⟨_,_,zn,zw,za⟩ | ⟨hno,_⟩
 · exact ⟨fun _=>⟨zn,zw,by rw [za,e1,hrn]⟩,fun z=>absurd ⟨h0,h1⟩ z⟩
 · exact absurd (Na hC.rg hI (by omega)) hno
end
theorem Td (p : TPg) (hp : Gm p) : D_f1t.wp (p,100) fun y=>y = true → p.AJ.n ≤ 10 ∧ p.AB.n ≤ 10 ∧ ∀ t,t < p.AB.n → (p.AB.get t).n ≤ 100:=by
 refine of_wp ?_
 simp only [tt_f1t]
 refine AE ilI (fun _=>fun h=>by cases h) fun h1=>AE ilI (fun _=>fun h=>by cases h) fun h2=>of_wp ?_
 simp only [tt_f1t_3]
 refine CU (tt:=tt_f1t_5) (fun x : X_f1t_5=>x.Gn = 100 ∧ x.KS = p ∧ ∃ k : Nat,x.Oa = k ∧ k ≤ p.AB.n ∧ ∀ t,t < k → (p.AB.get t).n ≤ 100) (fun x=>(p.AB.n - x.Oa).toNat) (fun _ y=>y = true → p.AJ.n ≤ 10 ∧ p.AB.n ≤ 10 ∧ ∀ t,t < p.AB.n → (p.AB.get t).n ≤ 100) (fun D x hI hD=>?_) ⟨rfl,rfl,0,rfl,Nat.zero_le _,fun t ht=>by omega⟩
 obtain ⟨m,p',n,i⟩:=x
 obtain ⟨e0,e1,k,e2,hk,hg⟩:=hI
 simp only at e0 e1 e2 hg hD
 subst e0 e1 e2
 simp only [tt_f1t_5]
 refine AE ilI (fun h=>?_) fun h=>fun _=>⟨by omega,by omega,fun t ht=>hg t (by omega)⟩
 have hkm : k < p'.AB.n:=by omega
 refine wN (BL hkm) ?_
 rw [Int.toNat_natCast]
 refine AE ilI (fun _=>fun h=>by cases h) fun h3=>wN (BL hkm) ?_
 rw [CG hkm hp.tn]
 refine hD _ ⟨rfl,rfl,k + 1,rfl,hkm,fun t ht=>?_⟩ (by simp only; omega)
 by_cases e : t = k
 · subst e; omega
 · exact hg t (by omega)
theorem law_f42 (p : TPg) (hp : Gm p) : D_f42.wp p fun y=>y = true ↔ DP (aP p):=by
 refine of_wp ?_
 simp only [tt_f42]
 exact wC (w_f41 p hp) fun (y : Bool) hy=>hy
structure UU (l : Sl TEv) : Prop where
 n : l.n ≤ maxLen
 e : ∀ i,i < l.n → O3 (l.get i)
theorem S0 {p q : TPg} (hp : Gm p) (hc : Fz q p) (hP : DP (aP p)) {f : TFa} (hF : Wz q 0 f) (ha : aF f = Eo (aP q)) : FC p 1 0 f ∧ aF f = Eo (aP p):=by
 have hqp:=hc.same
 rw [hqp] at ha
 have h1:=hF.cp
 have cp : Fz f.p p:=⟨⟨h1.r.n.trans hc.r.n,fun i hi=>(h1.r.g i (by rw [hc.r.n]; exact hi)).trans (hc.r.g i hi)⟩,h1.rz,h1.n.trans hc.n,fun t ht=>by
  have a:=h1.t t (by rw [hc.n]; exact ht)
  have b:=(hc.t t ht).1
  exact ⟨⟨a.1.n.trans b.n,fun i hi=>(a.1.g i (by rw [b.n]; exact hi)).trans (b.g i hi)⟩,a.2⟩⟩
 refine ⟨⟨hp,by rw [ha]; exact Pr hP,⟨cp,hF.tn.trans hc.n,hF.tw,hF.rn.trans hc.r.n,fun i hi=>?_⟩,by rw [ha]; exact Su,by decide,by decide⟩,ha⟩
 have:=hF.rw i hi
 have hi' : i < p.AJ.n:=by have:=hF.rn; have:=hc.r.n; omega
 rw [hc.r.g i hi'] at this
 exact this
theorem L0 {p : TPg} (hp : Gm p) : Fz p p:=⟨C6.refl _,hp.rz,rfl,fun t ht=>⟨C6.refl _,hp.lz t ht⟩⟩
section
variable {p : TPg} {B : Int} {k : Nat} {f : TFa}
theorem V5 (h : FC p B k f) : D_f4l.wp f fun y=>aS y = aF f ∧ WZ k y:=Vp p k f (by have:=h.hk; omega) h.inv.pi h.wf
end
def WJ (x : D3) : EN:=⟨x.VF,x.Va,x.Vi,x.Vu⟩
def zE : TEv:=⟨0,0,0,0,0⟩
def Ws : Option TEv → TEv × Bool
 | some e=>(e,true)
 | none=>(zE,false)
def An (o : Option TEv) (e : TEv) (b : Bool) : Prop:=o = some e ∧ b = true ∨ o = none ∧ b = false
structure Wa (t : Sl Int) : Prop where
 n : t.n ≤ maxLen
 u : ∀ i,i < t.n → CD (t.get i)
structure WL (x : D3) : Prop where
 c : CD x.Va
 d : CD x.Vi
theorem Wa.mem {t : Sl Int} (h : Wa t) : ∀ x ∈ t.L,CD x:=fun x hx=>by
 obtain ⟨i,hi,rfl⟩:=Sl.CZ.1 hx
 exact h.u i hi
section
variable {p : TPg} {B : Int} {k : Nat} {f : TFa} {tape : Sl Int} {x : D3}
theorem FC.Wy (h : FC p B k f) {i : Int} (h0 : 0 ≤ i) (h1 : i < p.AJ.n) {r : TRr} (hw : P7 (p.AJ.get i.toNat) r) (he : aR r = CP (aF f) i) : RC (p.AJ.get i.toNat) B r:=by
 have hB:=h.hB
 have hR:=h.inv.KG (i:=i) (by simp [aP]; omega)
 rw [Mv h0 h1,← he] at hR
 exact ⟨hR.2,hw,hR.1,by omega⟩
theorem Wu (h : FC p B k f) (t : Int) : D_f1n.wp (t,f) fun y=>(0 ≤ t ∧ t < p.AB.n → y.2 = 0 ∧ aA y.1 = A2 (aP p) (aF f) t) ∧ (¬(0 ≤ t ∧ t < p.AB.n) → y.2 ≠ 0):=by
 have htn:=h.wf.tn
 refine B3 ?_
 simp only [tt_f1n]
 refine wC (F3 t f) fun (y : Bool) hy=>?_
 refine AE bnI (fun q=>⟨fun hh=>absurd (hy.2 (by omega)) q,fun _=>by simp⟩) fun q=>?_
 have hy:=hy.1 (Classical.byContradiction q)
 exact wC (F4 h hy.1 (by omega)) fun (z : TAk) hz=>⟨fun _=>⟨rfl,hz⟩,fun hh=>absurd ⟨hy.1,by omega⟩ hh⟩
theorem WV (a : TAk) (c fire : Bool) : D_f4v.wp (a,(c,fire)) fun y=>y = if c = true then (6,true) else if a.Mode = 0 then (5,true) else if a.Mode = 2 ∧ fire = true then (7,true) else (0,false):=by
 refine of_wp ?_
 simp only [tt_f4v]
 refine BM (fun q=>by rw [if_pos q]; rfl) fun q=>?_
 rw [if_neg q]
 refine AE ieI (fun q=>by rw [if_pos q]; rfl) fun q=>?_
 rw [if_neg q]
 refine AE ieI (fun q1=>BM (fun q2=>by rw [if_pos ⟨q1,q2⟩]; rfl) fun q2=>by rw [if_neg fun z=>q2 z.2]; rfl) fun q1=>?_
 rw [if_neg fun z=>q1 z.1]; rfl
theorem WN (h : FC p B k f) {a : TAk} {pk ck dr : Int} {fire : Bool} {tp : List Int} {none : Bool} {r : TRr} {z : TEv} (ha : aA a = A2 (aP p) (aF f) pk) (hk : a.Kind = 1 ∨ a.Kind = 2)
 (hr : aR r = CP (aF f) a.Ring) (hj : 0 ≤ a.Reader ∧ a.Reader < r.AA.AD.n) (hn : none = GR (CP (aF f) a.Ring) (aA a)) :
 D_f4p_5.wp ⟨fire,a,none,f,⟨pk,0,0,0,0⟩,z,r⟩ fun y=>An (VP (aP p) (aF f) tp pk ck dr fire) y.1 y.2.1:=by
 refine of_wp ?_
 rw [Vt (by rw [← ha]; exact hk),← ha]
 simp only [tt_f4p_5]
 show TT.wp _ fun (y : RR_f4p)=>An (if GR (CP (aF f) a.Ring) (aA a) = true then (if (CP (aF f) a.Ring).Aw = true then some ⟨pk,6,a.Ring,0,0⟩ else if a.Mode = 0 then some ⟨pk,5,a.Ring,0,0⟩ else if a.Mode = 2 ∧ fire = true then some ⟨pk,7,a.Ring,0,0⟩ else Option.none)
  else if a.Kind = 1 then some ⟨pk,1,a.Ring,(CP (aF f) a.Ring).Aq,0⟩ else some ⟨pk,3,a.Ring,hd (CP (aF f) a.Ring) a.Reader,0⟩) y.1 y.2.1
 rw [← hn,← hr]
 refine BM (fun q=>?_) fun q=>?_
 · rw [if_pos q]
   refine wC (DT _) fun (y : Bool) hy=>?_
   subst hy
   refine wC (WV a r.closed fire) fun (w : Int × Bool) hw=>?_
   subst hw
   show An (if r.closed = true then _ else _) _ _
   by_cases q1 : r.closed = true
   · rw [if_pos q1,if_pos q1]; exact .inl ⟨rfl,rfl⟩
   rw [if_neg q1,if_neg q1]
   by_cases q2 : a.Mode = 0
   · rw [if_pos q2,if_pos q2]; exact .inl ⟨rfl,rfl⟩
   rw [if_neg q2,if_neg q2]
   by_cases q3 : a.Mode = 2 ∧ fire = true
   · rw [if_pos q3,if_pos q3]; exact .inl ⟨rfl,rfl⟩
   rw [if_neg q3,if_neg q3]; exact .inr ⟨rfl,rfl⟩
 · rw [if_neg q]
   refine wC (JH a.Reader r hj.1 hj.2) fun (y : Int) hy=>?_
   subst hy
   refine AE ieI (fun q1=>wC (FH r) fun (y : Int) hy=>?_) fun q1=>?_
   · subst hy; rw [if_pos q1]; exact .inl ⟨rfl,rfl⟩
   · rw [if_neg q1]
     exact .inl ⟨by rw [Ls hj.1 hj.2],rfl⟩
theorem V8 (h : FC p B k f) {a : TAk} {pk ck dr : Int} {fire : Bool} {tp : List Int} (ha : aA a = A2 (aP p) (aF f) pk) (hk : a.Kind = 1 ∨ a.Kind = 2) (h0 : 0 ≤ pk) (h1 : pk < p.AB.n) :
 D_f4p.wp (a,(⟨pk,0,0,0,0⟩,(fire,f))) fun y=>An (VP (aP p) (aF f) tp pk ck dr fire) y.1 y.2:=by
 have htn:=h.wf.tn
 have ek : (A2 (aP p) (aF f) pk).Kind = a.Kind:=by rw [← ha]; rfl
 have er : (A2 (aP p) (aF f) pk).Ring = a.Ring:=by rw [← ha]; rfl
 have ed : (A2 (aP p) (aF f) pk).Reader = a.Reader:=by rw [← ha]; rfl
 obtain ⟨r0,r1,r2⟩:=IL h.inv (t:=pk) (by simp [aF]; omega) rfl (by omega)
 have hs:=WY (p:=aP p) (m:=aF f) (t:=pk)
 rw [er] at r0 r1 r2
 rw [ek,ed] at r2 hs
 have r1 : a.Ring < p.AJ.n:=by simp [aP] at r1; omega
 rw [Mv r0 r1] at r2
 refine B3 ?_
 simp only [tt_f4p]
 refine wC (LH h a.Ring) fun (y : Bx TRr) hy=>?_
 obtain ⟨yn,yw,ya⟩:=hy.1 ⟨r0,r1⟩
 have hC:=h.Wy r0 r1 yw ya
 have hn:=hC.hn
 have hj : 0 ≤ a.Reader ∧ a.Reader < y.x.AA.AD.n:=by
  rcases hk with q | q
  · have:=hs q; omega
  · have:=r2 (.inl q); omega
 have L5:=fun none hn=>WN (p:=p) (ck:=ck) (dr:=dr) (tp:=tp) (fire:=fire) (none:=none) (z:=⟨0,0,0,0,0⟩) h ha hk ya hj hn
 refine wN (by simp [yn]) (wC (Em a.Reader hj.1 hj.2) fun (em : Bool) he=>?_)
 refine AE ieI (fun q=>wC (DT _) fun (c : Bool) hc=>BM (fun qc=>?_) fun qc=>wC (Gd hC) fun (fu : Bool) hf=>?_) fun q=>?_
 · refine L5 true ?_
   unfold GR; rw [if_pos (show (aA a).Kind = 1 from q),← ya,← hc,qc]; rfl
 · refine L5 fu ?_
   unfold GR; rw [if_pos (show (aA a).Kind = 1 from q),← ya,← hc,show c = false by simpa using qc,hf]; rfl
 · refine L5 em ?_
   unfold GR; rw [if_neg (show ¬ (aA a).Kind = 1 from q),← ya,he]; rfl
theorem Wi (h : FC p B k f) (hr : 0 ≤ f.reads) (ht : Wa tape) (pk : Int) : D_f4q.wp (tape,(⟨pk,0,0,0,0⟩,f)) fun y=>y = if f.ended = true ∨ (tape.n : Int) ≤ f.reads then ⟨pk,11,0,0,0⟩ else ⟨pk,10,0,0,tape.L.getD f.reads.toNat 0⟩:=by
 have hm:=Iz ht.n
 refine B3 ?_
 simp only [tt_f4q]
 refine wC (V5 h) fun (y : TSt) hy=>?_
 have e1 : y.CF = f.ended:=congrArg MS.CF hy.1
 have e2 : y.Reads = f.reads:=congrArg MS.Reads hy.1
 have e3 : IntKind.u64.wrap ((tape.n : Nat) : Int) = tape.n:=by
  simp only [IntKind.wrap,IntKind.signed,IntKind.bits,Bool.false_and,Bool.false_eq_true,if_false]; omega
 rw [e1,e2,e3]
 refine BM (fun q=>by rw [if_pos (.inl q)]; rfl) fun q=>AE leI (fun q2=>by rw [if_pos (.inr q2)]; rfl) fun q2=>of_wp ?_
 rw [if_neg (fun z=>z.elim q q2)]
 simp only [tt_f4q_5,e2]
 refine wN (by rw [ibI]; omega) ?_
 rw [I5 tape hr (by omega)]
 rfl
end
theorem W0 {p : MP} {m : MS} {tp : List Int} {pk ck dr : Int} {fire : Bool} {e : TEv} {b : Bool} (h0 : 0 ≤ pk) (h1 : pk < m.AB.length) (hc : VP p m tp pk ck dr fire = some e) (hb : b = Ax p m e) : An (VW p m tp pk ck dr fire) e b:=by
 unfold VW
 rw [if_neg (by omega),hc]
 simp only
 subst hb
 cases q : Ax p m e
 · exact .inr ⟨by simp,rfl⟩
 · exact .inl ⟨by simp,rfl⟩
theorem Wp {p : MP} {m : MS} {tp : List Int} {pk ck dr : Int} {fire : Bool} {e : TEv} (hc : VP p m tp pk ck dr fire = none) : An (VW p m tp pk ck dr fire) e false:=by
 refine .inr ⟨?_,rfl⟩
 unfold VW
 split
 · rfl
 rw [hc]
theorem Wo {o : Option TEv} {e : TEv} {b : Bool} (h : An o e b) : (if b = true then (e,true) else (zE,false)) = Ws o:=by
 rcases h with ⟨h1,h2⟩ | ⟨h1,h2⟩ <;> subst h1 h2 <;> rfl
section
variable {p : TPg} {B : Int} {k : Nat} {f : TFa} {tape : Sl Int} {x : D3}
theorem WA (h : FC p B k f) (ht : Wa tape) (hx : WL x) (h0 : 0 ≤ x.VF) (h1 : x.VF < p.AB.n) {z e : TEv} (hc : VP (aP p) (aF f) tape.L x.VF x.Va x.Vi x.Vu = some e) :
 D_f4n_26.wp ⟨f,z,e⟩ fun y=>An (Vy (aP p) tape.L (aF f) (WJ x)) y.1 y.2.1:=by
 have htn:=h.wf.tn
 refine of_wp ?_
 simp only [tt_f4n_26]
 have hl : x.VF < (aF f).AB.length:=by simp [aF]; omega
 have hu:=WC h.inv h.hB (h.VB h0 h1) hx.d ht.mem h0 hl hc
 exact wC (ED h ⟨hu.1,hu.2⟩) fun (y : Bool) hy=>W0 h0 hl hc hy
theorem WM (h : FC p B k f) (hr : 0 ≤ f.reads) (ht : Wa tape) (hx : WL x) (h0 : 0 ≤ x.VF) (h1 : x.VF < p.AB.n) {a : TAk} (ha : aA a = A2 (aP p) (aF f) x.VF) :
 D_f4n.wp (tape,(a,(x,f))) fun y=>An (Vy (aP p) tape.L (aF f) (WJ x)) y.1 y.2:=by
 have htn:=h.wf.tn
 have hl : x.VF < (aF f).AB.length:=by simp [aF]; omega
 have ek : (A2 (aP p) (aF f) x.VF).Kind = a.Kind:=by rw [← ha]; rfl
 have er : (A2 (aP p) (aF f) x.VF).Ring = a.Ring:=by rw [← ha]; rfl
 have htop:=Wm h.inv (t:=x.VF) (by omega)
 rw [ek] at htop
 have L:=fun e hc=>WA (x:=x) (z:=⟨0,0,0,0,0⟩) (e:=e) h ht hx h0 h1 hc
 have hcl:=hx.c
 have hto : ∀ e b,a.Kind = 1 ∨ a.Kind = 2 → An (VP (aP p) (aF f) tape.L x.VF x.Va x.Vi x.Vu) e b → An (Vy (aP p) tape.L (aF f) (WJ x)) e b:=fun e b q hh=>by
  show An (VW (aP p) (aF f) tape.L x.VF x.Va x.Vi x.Vu) _ _
  rw [V6 h.inv h.hB h0 hl (by rw [ek]; exact q)]; exact hh
 refine B3 ?_
 simp only [tt_f4n]
 refine AE ieI (fun q=>?_) fun n0=>AE ieI (fun q=>?_) fun n1=>AE ieI (fun q=>?_) fun n2=>AE ieI (fun q=>?_) fun n10=>AE ieI (fun q=>?_) fun n11=>AE ieI (fun q=>?_) fun n3 =>
  AE ieI (fun q=>?_) fun n4=>AE ieI (fun q=>?_) fun n5=>AE ieI (fun q=>?_) fun n6=>AE ieI (fun q=>?_) fun n7=>AE ieI (fun q=>?_) fun n8=>AE ieI (fun q=>?_) fun n9=>by omega
 · show An (VW (aP p) (aF f) tape.L x.VF x.Va x.Vi x.Vu) _ _
   exact Wp (by unfold VP; simp only; rw [if_pos (by rw [ek]; exact q)])
 · exact wC (V8 (ck:=x.Va) (dr:=x.Vi) (tp:=tape.L) h ha (.inl q) h0 h1) fun (y : TEv × Bool) hy=>hto _ _ (.inl q) hy
 · exact wC (V8 (ck:=x.Va) (dr:=x.Vi) (tp:=tape.L) h ha (.inr q) h0 h1) fun (y : TEv × Bool) hy=>hto _ _ (.inr q) hy
 · exact L _ (by simp [VP,← ha,aA,q])
 · exact L _ (by simp [VP,← ha,aA,q])
 · obtain ⟨r0,r1,_⟩:=IL h.inv (t:=x.VF) (by omega) rfl (by omega)
   rw [er] at r0 r1
   have r1 : a.Ring < p.AJ.n:=by simp [aP] at r1; omega
   refine wC (LH h a.Ring) fun (y : Bx TRr) hy=>?_
   obtain ⟨yn,yw,ya⟩:=hy.1 ⟨r0,r1⟩
   refine wC (Q':=fun z=>z = y.x.AA.tail) (of_wp (wN (by simp [yn]) rfl)) fun (z : Int) hz=>L _ ?_
   subst hz
   have : (CP (aF f) a.Ring).Aq = y.x.AA.tail:=by rw [← ya]; rfl
   simp [VP,← ha,aA,q,this]
 · refine wC (Hg f) fun (y : Int) hy=>L _ ?_
   subst hy
   have : Int.tmod x.Va 1048576 = x.Va % 1048576:=Int.tmod_eq_emod_of_nonneg hcl.1
   simp [VP,← ha,aA,q,this,show (aF f).FD = f.now from rfl]
 · exact L _ (by simp [VP,← ha,aA,q])
 · refine wC (Wi h hr ht x.VF) fun (y : TEv) hy=>L _ ?_
   subst hy
   simp only [VP,← ha,aA,q,show (aF f).CF = f.ended from rfl,show (aF f).Reads = f.reads from rfl,Sl.A8]
   simp only [Int.reduceEq,or_self,if_false,if_true]
   split <;> rfl
 · exact L _ (by simp [VP,← ha,aA,q])
 · exact L _ (by simp [VP,← ha,aA,q])
 · exact L _ (by simp [VP,← ha,aA,q])
theorem WW (h : FC p B k f) (hr : 0 ≤ f.reads) (ht : Wa tape) (hx : WL x) : D_f4u.wp (tape,(x,f)) fun y=>y = Ws (Vy (aP p) tape.L (aF f) (WJ x)):=by
 have htn:=h.wf.tn
 refine B3 ?_
 simp only [tt_f4u]
 refine wC (Wu h x.VF) fun (y : TAk × Int) hy=>?_
 by_cases hin : 0 ≤ x.VF ∧ x.VF < p.AB.n
 · obtain ⟨y2,ya⟩:=hy.1 hin
   refine AE (p:=y.2 ≠ 0) (by rw [bnI,ieI]) (fun q=>absurd y2 q) fun _=>wC (WM h hr ht hx hin.1 hin.2 ya) fun (w : TEv × Bool) hw=>?_
   rw [← Wo hw]
   refine AE bnI (fun q=>by rw [if_neg q]; rfl) fun q=>?_
   rw [if_pos (Classical.byContradiction q)]
   rfl
 · refine AE (p:=y.2 ≠ 0) (by rw [bnI,ieI]) (fun _=>?_) fun q=>absurd (hy.2 hin) q
   have : Vy (aP p) tape.L (aF f) (WJ x) = none:=by
    show VW _ _ _ _ _ _ _ = none
    unfold VW
    rw [if_pos (by simp [aF,WJ]; omega)]
   rw [this]; rfl
def Wx (P : MP) (m : MS) (o : Option TEv) : MS:=match o with | some e=>D2 P m e | none=>m
theorem V4 {P : MP} {m : MS} {e : TEv} (h : 0 ≤ m.Reads) : 0 ≤ (D2 P m e).Reads:=by
 show 0 ≤ (if e.Kind = 10 then IntKind.u64.wrap (m.Reads + 1) else m.Reads)
 split
 · simp only [IntKind.wrap,IntKind.signed,IntKind.bits,Bool.false_and,Bool.false_eq_true,if_false]; omega
 · exact h
theorem Wk (h : FC p B k f) (hr : 0 ≤ f.reads) (ht : Wa tape) (hx : WL x) (hB : B + 1 ≤ 2305843009213693952) (hk : k + 1 ≤ 1000000000) :
 D_f4w.wp (tape,(x,f)) fun y=>(y.1,y.2.1) = Ws (Vy (aP p) tape.L (aF f) (WJ x)) ∧ aF y.2.2 = Wx (aP p) (aF f) (Vy (aP p) tape.L (aF f) (WJ x)) ∧ FC p (B + 1) (k + 1) y.2.2 ∧ 0 ≤ y.2.2.reads:=by
 have htn:=h.wf.tn
 refine of_wp ?_
 simp only [tt_f4w]
 refine wC (WW h hr ht hx) fun (y : TEv × Bool) hy=>?_
 cases ho : Vy (aP p) tape.L (aF f) (WJ x) with
 | none =>
   rw [ho] at hy; subst hy
   exact BM (fun q=>by cases q) fun _=>⟨rfl,rfl,h.grow hB hk,hr⟩
 | some e =>
   rw [ho] at hy; subst hy
   have hal:=VU (p:=aP p) (m:=aF f) ho
   have hin : x.VF < p.AB.n:=by have:=hal.2.2; simp [aF,WJ] at this; omega
   have h0 : 0 ≤ x.VF:=hal.2.1
   have hu:=V0 h.inv h.hB (h.VB h0 hin) hx.d ht.mem ho
   refine BM (fun _=>?_) fun q=>absurd rfl q
   refine wC (JI h ⟨hu.1,hu.2⟩ hB hk) fun (w : Int × TFa) hw=>?_
   obtain ⟨_,w2,w3⟩:=hw
   have w2 : aF w.2 = (RH (aP p) (aF f) e).2:=w2
   rw [GO hal.1] at w2
   refine ⟨rfl,w2,w3,?_⟩
   have : w.2.reads = (D2 (aP p) (aF f) e).Reads:=congrArg MS.Reads w2
   show 0 ≤ w.2.reads
   rw [this]
   exact V4 hr
end

theorem Wv (s : Sl TEv) (e : TEv) (b : Bool) : (Sl.mk b (s.n + 1) (fun i=>TEv.mk (cond (Nat.blt i s.n) (s.get i).Thread e.Thread) (cond (Nat.blt i s.n) (s.get i).Kind e.Kind) (cond (Nat.blt i s.n) (s.get i).Ring e.Ring) (cond (Nat.blt i s.n) (s.get i).AG e.AG) (cond (Nat.blt i s.n) (s.get i).Value e.Value))).L = s.L ++ [e]:=by
 rw [← RW]
 refine RZ rfl fun i=>?_
 simp only [snoc]
 cases Nat.blt i s.n <;> rfl
theorem WT {P : MP} {tp : List Int} {l : List EN} {k : Nat} {x : EN} (h : l[k]? = some x) (r : WR) : VH P tp (l.take (k + 1)) r = VR P tp (VH P tp (l.take k) r) x:=by
 unfold VH
 rw [List.take_add_one,h,List.foldl_append]
 rfl
theorem Wb {P : MP} {tp : List Int} {r : WR} (x : EN) (h : 0 ≤ r.Idle ∧ 0 ≤ r.VL) : 0 ≤ (VR P tp r x).Idle ∧ 0 ≤ (VR P tp r x).VL:=by
 unfold VR
 split
 · exact h
 · split <;> simp only <;> omega
theorem WU {P : MP} {tp : List Int} (l : List EN) : ∀ r : WR,0 ≤ r.Idle ∧ 0 ≤ r.VL → 0 ≤ (VH P tp l r).Idle ∧ 0 ≤ (VH P tp l r).VL:=by
 induction l with
 | nil=>intro r h; exact h
 | cons x l ih=>intro r h; exact ih _ (Wb x h)
structure Wr (l : Sl D3) : Prop where
 n : l.n ≤ maxLen
 e : ∀ i,i < l.n → WL (l.get i)
def Vw (l : Sl D3) : List EN:=l.L.map WJ
theorem Wc {l : Sl D3} {k : Nat} (h : k < l.n) : (Vw l)[k]? = some (WJ (l.get k)):=by
 unfold Vw
 rw [List.getElem?_map,Sl.DH _ h]; rfl
@[simp] theorem V1 (l : Sl D3) : (Vw l).length = l.n:=by simp [Vw]
section
variable {f : TFa}
theorem Wl (t : Int) (f : TFa) : D_f1j.wp (t,f) fun y=>y = !Ve (aF f) t:=by
 refine B3 ?_
 simp only [tt_f1j,Nat.zero_add]
 refine wC (F3 t f) fun (y : Bool) hy=>?_
 refine BM (fun q=>?_) fun q=>?_
 · obtain ⟨h0,h1⟩:=hy.1 q
   refine wN (by rw [ibI]; exact ⟨h0,h1⟩) (wN (by simp) (wN (by simp) ?_))
   show AX (f.threads.get t.toNat).Status 0 = !Ve (aF f) t
   unfold Ve
   rw [F5 h0 h1,show ((aF f).AB.length : Int) = f.threads.n by simp [aF]]
   refine BQ ?_
   simp only [ieI,Bool.not_eq_true',decide_eq_false_iff_not]
   show (f.threads.get t.toNat).Status = 0 ↔ ¬(t < 0 ∨ (f.threads.n : Int) ≤ t ∨ (f.threads.get t.toNat).Status ≠ 0)
   omega
 · show false = !Ve (aF f) t
   have : Ve (aF f) t = true:=by
    unfold Ve
    rw [show ((aF f).AB.length : Int) = f.threads.n by simp [aF]]
    refine decide_eq_true ?_
    have : ¬ (0 ≤ t ∧ t < f.threads.n):=fun z=>q (hy.2 z)
    omega
   rw [this]; rfl
end
structure Wn (p : TPg) (tp : List Int) (l : List EN) (y : Bh) : Prop where
 ev : y.R3.L = (VH (aP p) tp l (Vv (Eo (aP p)))).Ev
 st : aS y.State = (VH (aP p) tp l (Vv (Eo (aP p)))).St
 id : y.Idle = (VH (aP p) tp l (Vv (Eo (aP p)))).Idle
 wt : y.VL = (VH (aP p) tp l (Vv (Eo (aP p)))).VL
 fc : ∃ f,FC p (1 + l.length) l.length f ∧ aF f = (VH (aP p) tp l (Vv (Eo (aP p)))).St ∧ 0 ≤ f.reads
 ok : WZ l.length y.State
 ee : ∀ i,i < y.R3.n → O3 (y.R3.get i)
theorem Wt {p q : TPg} (hp : Gm p) (hq : Fz q p) {tape : Sl Int} {script : Sl D3} (ht : Wa tape) (hs : Wr script) :
 D_f4m.wp (q,(tape,script)) fun y=>(DP (aP p) ∧ script.n ≤ 65536 ∧ tape.n ≤ 65536 → y.2 = 0 ∧ Wn p tape.L (Vw script) y.1) ∧ (¬ DP (aP p) → y.2 = 1 ∧ y.1 = ⟨⟨true,0,fun _=>⟨0,0,0,0,0⟩⟩,⟨⟨true,0,fun _=>⟨0,0,0,0,0,fun _=>0,⟨true,0,fun _=>0⟩⟩⟩,⟨true,0,fun _=>⟨0,⟨true,0,fun _=>0⟩,false,⟨true,0,fun _=>⟨0,0,0⟩⟩⟩⟩,0,0,false⟩,0,0⟩) ∧
  (DP (aP p) ∧ 65536 < script.n → y.2 = 4 ∧ y.1 = ⟨⟨true,0,fun _=>⟨0,0,0,0,0⟩⟩,⟨⟨true,0,fun _=>⟨0,0,0,0,0,fun _=>0,⟨true,0,fun _=>0⟩⟩⟩,⟨true,0,fun _=>⟨0,⟨true,0,fun _=>0⟩,false,⟨true,0,fun _=>⟨0,0,0⟩⟩⟩⟩,0,0,false⟩,0,0⟩):=by
 refine of_wp ?_
 simp only [tt_f4m]
 refine wC (w_f1h q (hq.Gm hp) 0) fun (y : Bx TFa × Int) hy=>?_
 have hqs : aP q = aP p:=hq.same
 rcases hy with ⟨hP,y2,yn,yF,ya⟩ | ⟨hno,y2,yn⟩
 rotate_left
 · rw [hqs] at hno
   refine AE (p:=y.2 ≠ 0) (by rw [bnI,ieI]) (fun _=>⟨fun z=>absurd z.1 hno,fun _=>⟨rfl,rfl⟩,fun z=>absurd z.1 hno⟩) fun z=>absurd (by omega) z
 rw [hqs] at hP
 refine AE (p:=y.2 ≠ 0) (by rw [bnI,ieI]) (fun z=>absurd y2 z) fun _=>AE ilI (fun z=>⟨fun w=>by omega,fun w=>absurd hP w,fun _=>⟨rfl,rfl⟩⟩) fun h1=>AE ilI (fun z=>⟨fun w=>by omega,fun w=>absurd hP w,fun w=>by omega⟩) fun h2=>of_wp ?_
 simp only [tt_f4m_6]
 obtain ⟨hFC,ya⟩:=S0 hp hq hP yF ya
 have hsn : script.n ≤ 65536:=by omega
 refine wN (by simp [yn]) ?_
 refine CU (tt:=tt_f4m_8) (fun x : X_f4m_8=>x.VM = tape ∧ x.Vr = script ∧ x.V2 = script.n ∧ ∃ k : Nat,x.Vg = k ∧ k ≤ script.n ∧ FC p (1 + k) k x.WH ∧ 0 ≤ x.WH.reads ∧ aF x.WH = (VH (aP p) tape.L ((Vw script).take k) (Vv (Eo (aP p)))).St ∧
  x.I1.R3.L = (VH (aP p) tape.L ((Vw script).take k) (Vv (Eo (aP p)))).Ev ∧ x.I1.Idle = (VH (aP p) tape.L ((Vw script).take k) (Vv (Eo (aP p)))).Idle ∧ x.I1.VL = (VH (aP p) tape.L ((Vw script).take k) (Vv (Eo (aP p)))).VL ∧ ∀ i,i < x.I1.R3.n → O3 (x.I1.R3.get i))
  (fun x=>(script.n - x.Vg).toNat) (fun _ y=>(DP (aP p) ∧ script.n ≤ 65536 ∧ tape.n ≤ 65536 → y.2 = 0 ∧ Wn p tape.L (Vw script) y.1) ∧ (¬ DP (aP p) → y.2 = 1 ∧ y.1 = ⟨⟨true,0,fun _=>⟨0,0,0,0,0⟩⟩,⟨⟨true,0,fun _=>⟨0,0,0,0,0,fun _=>0,⟨true,0,fun _=>0⟩⟩⟩,⟨true,0,fun _=>⟨0,⟨true,0,fun _=>0⟩,false,⟨true,0,fun _=>⟨0,0,0⟩⟩⟩⟩,0,0,false⟩,0,0⟩) ∧
    (DP (aP p) ∧ 65536 < script.n → y.2 = 4 ∧ y.1 = ⟨⟨true,0,fun _=>⟨0,0,0,0,0⟩⟩,⟨⟨true,0,fun _=>⟨0,0,0,0,0,fun _=>0,⟨true,0,fun _=>0⟩⟩⟩,⟨true,0,fun _=>⟨0,⟨true,0,fun _=>0⟩,false,⟨true,0,fun _=>⟨0,0,0⟩⟩⟩⟩,0,0,false⟩,0,0⟩)) (fun D x hI hD=>?_)
  ⟨rfl,rfl,rfl,0,rfl,Nat.zero_le _,hFC,by have : y.1.x.reads = (Eo (aP p)).Reads:=congrArg MS.Reads ya; rw [this]; exact Int.le_refl _,ya,rfl,rfl,rfl,fun i hi=>absurd hi (Nat.not_lt_zero i)⟩
 obtain ⟨t',s',q35,q36,m6,m10,f⟩:=x
 obtain ⟨e0,e1,e2,k,e3,hk,hF,hr,hst,hev,hid,hwt,hee⟩:=hI
 simp only at e0 e1 e2 e3 hF hr hst hev hid hwt hee hD
 subst e0 e1 e2 e3
 simp only [tt_f4m_8]
 have hcnt:=Vz (p:=aP p) (tape:=t'.L) ((Vw s').take k) (Vv (Eo (aP p)))
 have hnn:=WU (P:=aP p) (tp:=t'.L) ((Vw s').take k) (Vv (Eo (aP p))) ⟨Int.le_refl _,Int.le_refl _⟩
 rw [← hev,← hid,← hwt] at hcnt
 rw [← hid,← hwt] at hnn
 have hcnt : (m10.R3.n : Int) + m10.Idle + m10.VL = k:=by
  simp only [Sl.A8,Vv,List.length_nil,List.length_take,V1] at hcnt
  omega
 refine AE ilI (fun h=>?_) fun h=>of_wp ?_
 · have hkm : k < s'.n:=by omega
   refine wN (BL hkm) ?_
   rw [Int.toNat_natCast]
   have hx:=hs.e k hkm
   have hsn:=WT (P:=aP p) (tp:=t'.L) (Wc hkm) (Vv (Eo (aP p)))
   refine wC (Wk hF hr ht hx (by omega) (by omega)) fun (w : TEv × Bool × TFa) hw=>?_
   obtain ⟨w1,w2,w3,w4⟩:=hw
   rw [show (1 : Int) + k + 1 = 1 + ((k + 1 : Nat) : Int) by omega] at w3
   have hd : ∀ m10' : Bh,(m10'.R3.L = (VH (aP p) t'.L ((Vw s').take (k + 1)) (Vv (Eo (aP p)))).Ev ∧ aF w.2.2 = (VH (aP p) t'.L ((Vw s').take (k + 1)) (Vv (Eo (aP p)))).St ∧ m10'.Idle = (VH (aP p) t'.L ((Vw s').take (k + 1)) (Vv (Eo (aP p)))).Idle ∧ m10'.VL = (VH (aP p) t'.L ((Vw s').take (k + 1)) (Vv (Eo (aP p)))).VL) → (∀ i,i < m10'.R3.n → O3 (m10'.R3.get i)) →
    (D_f4m_16 D).wp ⟨t',s',(s'.n : Int),(k : Int),m6,m10',w.2.2⟩ _:=fun m10' hh h5=>of_wp (by
    simp only [tt_f4m_16,CG hkm hs.n]
    exact hD _ ⟨rfl,rfl,rfl,k + 1,rfl,hkm,w3,w4,hh.2.1,hh.1,hh.2.2.1,hh.2.2.2,h5⟩ (by simp only; omega))
   unfold VR at hsn
   rw [← hst] at hsn
   cases ho : Vy (aP p) t'.L (aF f) (WJ (s'.get k)) with
   | some e =>
     rw [ho] at w1 w2 hsn
     have w11 : w.1 = e:=congrArg Prod.fst w1
     have w12 : w.2.1 = true:=congrArg Prod.snd w1
     simp only at hsn
     refine BM (fun _=>wN (by simp [room]; omega) ?_) fun z=>absurd w12 z
     have hin : (s'.get k).VF < p.AB.n:=by have:=(VU (p:=aP p) (m:=aF f) ho).2.2; have:=hF.wf.tn; simp [aF,WJ] at *; omega
     have hu:=V0 hF.inv hF.hB (hF.VB (VU (p:=aP p) (m:=aF f) ho).2.1 hin) hx.d ht.mem ho
     refine hd _ ⟨?_,?_,?_,?_⟩ ?_
     · rw [hsn]; simp only
       rw [Wv,hev,w11]
     · rw [hsn,w2]; rfl
     · rw [hsn]; exact hid
     · rw [hsn]; exact hwt
     · intro i hi
       simp only at hi ⊢
       by_cases c : i < m10.R3.n
       · rw [Si c]; exact hee i c
       · have : i = m10.R3.n:=by omega
         rw [this,Sj,w11]; exact ⟨hu.1,hu.2⟩
   | none =>
     rw [ho] at w1 w2 hsn
     have w12 : w.2.1 = false:=congrArg Prod.snd w1
     have w2 : aF w.2.2 = aF f:=w2
     simp only at hsn
     refine BM (fun z=>by rw [w12] at z; cases z) fun _=>wC (Wl _ _) fun (r : Bool) hr'=>?_
     rw [show aF (TFa.mk w.2.2.p w.2.2.threads w.2.2.rings w.2.2.now w.2.2.reads w.2.2.ended) = aF f from w2] at hr'
     have hsel : (WJ (s'.get k)).VF = (s'.get k).VF:=rfl
     rw [hsel] at hsn
     refine BM (fun z=>?_) fun z=>?_
     · have hi : Ve (aF f) (s'.get k).VF = false:=by rw [hr'] at z; simpa using z
       rw [if_neg (by rw [hi]; simp)] at hsn
       refine hd _ ⟨by rw [hsn]; exact hev,by rw [hsn,w2,hst],by rw [hsn]; exact hid,?_⟩ hee
       rw [hsn]; simp only
       rw [wrap64 (by omega) (by omega),hwt]
     · have hi : Ve (aF f) (s'.get k).VF = true:=by rw [hr'] at z; simpa using z
       rw [if_pos hi] at hsn
       refine hd _ ⟨by rw [hsn]; exact hev,by rw [hsn,w2,hst],?_,by rw [hsn]; exact hwt⟩ hee
       rw [hsn]; simp only
       rw [wrap64 (by omega) (by omega),hid]
 · have e : k = s'.n:=by omega
   subst e
   simp only [tt_f4m_17]
   have et : (Vw s').take s'.n = Vw s':=List.take_of_length_le (by simp)
   rw [et] at hst hev hid hwt
   refine wC (V5 hF) fun (w : TSt) hw=>⟨fun _=>⟨rfl,?_⟩,fun z=>absurd hP z,fun z=>by omega⟩
   exact ⟨hev,hw.1.trans hst,hid,hwt,⟨f,by rw [V1]; exact hF,hst,hr⟩,by rw [V1]; exact hw.2,hee⟩
theorem XY (a b : Sl TEv) (h : a.L = b.L) (hn : a.n ≤ maxLen) : D_f4z.wp (a,b) fun y=>y = true:=by
 obtain ⟨h1,h2⟩:=Sl.Xe h
 refine of_wp ?_
 simp only [tt_f4z]
 refine AE (p:=(a.n : Int) ≠ b.n) (by rw [bnI,ieI]) (fun z=>by omega) fun _=>?_
 refine Cc (tt:=tt_f4z_4) (fun k=>(⟨a,b,(k : Int)⟩ : X_f4z_4)) a.n (fun _=>True) (fun y=>y = true) (fun D _=>?_) (fun D k hk _ hD=>?_) (Nat.zero_le _) trivial
 · simp only [tt_f4z_4]
   exact AE ilI (fun z=>by omega) fun _=>rfl
 · simp only [tt_f4z_4]
   refine AE ilI (fun _=>wN (BL hk) (wN (BL (by omega)) ?_)) fun z=>by omega
   rw [Int.toNat_natCast,h2 k hk,CG hk hn]
   refine BM (fun z=>?_) fun _=>hD trivial
   simp [AX] at z

theorem Xd (s : Sl D3) (x : D3) (b : Bool) : Vw (Sl.mk b (s.n + 1) (fun i=>D3.mk (cond (Nat.blt i s.n) (s.get i).VF x.VF) (cond (Nat.blt i s.n) (s.get i).Va x.Va) (cond (Nat.blt i s.n) (s.get i).Vi x.Vi) (cond (Nat.blt i s.n) (s.get i).Vu x.Vu))) = Vw s ++ [WJ x]:=by
 have : (Sl.mk b (s.n + 1) (fun i=>D3.mk (cond (Nat.blt i s.n) (s.get i).VF x.VF) (cond (Nat.blt i s.n) (s.get i).Va x.Va) (cond (Nat.blt i s.n) (s.get i).Vi x.Vi) (cond (Nat.blt i s.n) (s.get i).Vu x.Vu))).L = s.L ++ [x]:=by
  rw [← RW]
  refine RZ rfl fun i=>?_
  simp only [snoc]
  cases Nat.blt i s.n <;> rfl
 unfold Vw
 rw [this,List.map_append]; rfl
theorem Uc (s : Sl Int) (v : Int) (b : Bool) : (Sl.mk b (s.n + 1) (fun i=>cond (Nat.blt i s.n) (s.get i) v)).L = s.L ++ [v]:=by
 rw [← RW]
 exact RZ rfl fun i=>rfl
section
variable {P : MP} {m0 m : MS} {l : List TEv} {e : TEv} {k : Nat}
theorem Xa (h : HG P (l.take k) m0 = some m) (he : l[k]? = some e) (ha : Ax P m e = true) : HG P (l.take (k + 1)) m0 = some (D2 P m e):=by
 rw [List.take_add_one,he,all_append,h]
 simp [HG,ha]
theorem XZ (h : HG P (l.take k) m0 = some m) (he : l[k]? = some e) (ha : Ax P m e = false) : HG P l m0 = none:=by
 have hk : k < l.length:=(List.getElem?_eq_some_iff.1 he).1
 have e1 : l[k] = e:=(List.getElem?_eq_some_iff.1 he).2
 have : l = l.take k ++ e :: l.drop (k + 1):=by rw [← e1,List.getElem_cons_drop,List.take_append_drop]
 rw [this,all_append,h]
 simp [HG,ha]
theorem XU : ∀ (a : List TEv) {m0 m : MS},HG P a m0 = some m → XA P (a ++ [e]) m0 = XA P a m0 ++ [XR m e]:=by
 intro a
 induction a with
 | nil=>intro m0 m h; cases h; rfl
 | cons x a ih =>
   intro m0 m h
   simp only [HG] at h
   split at h
   · show XR m0 x :: XA P (a ++ [e]) _ = XR m0 x :: (XA P a _ ++ [XR m e])
     rw [ih h]
   · cases h
theorem XD : ∀ (a : List TEv) (m0 : MS),(XA P a m0).length = a.length:=by
 intro a
 induction a with
 | nil=>intro m0; rfl
 | cons x a ih=>intro m0; simp [XA,ih]
theorem XN : WO (l ++ [e]) = if e.Kind = 10 then WO l ++ [e.Value] else WO l:=by
 unfold WO
 rw [List.filter_append,List.map_append]
 split
 · rename_i h; simp [h]
 · rename_i h; simp [h]
theorem XC : (WO l).length ≤ l.length:=by
 unfold WO
 rw [List.length_map]
 exact List.length_filter_le _ _
theorem XE (he : l[k]? = some e) : l.take (k + 1) = l.take k ++ [e]:=by rw [List.take_add_one,he]; rfl
theorem Xb : ∀ (a : List TEv) (m0 : MS),(∀ x ∈ a,CD x.Value) → ∀ x ∈ XA P a m0,CD x.Va ∧ CD x.Vi:=by
 intro a
 induction a with
 | nil=>intro m0 _ x h; cases h
 | cons y a ih =>
   intro m0 h x hx
   rcases List.mem_cons.1 hx with rfl | hx
   · have hy:=h y (List.mem_cons_self ..)
     refine ⟨?_,?_⟩
     · show CD (if y.Kind = 8 then _ else 0)
       split
       · simp only [CD,IntKind.wrap,IntKind.signed,IntKind.bits,Bool.false_and,Bool.false_eq_true,if_false]; omega
       · exact CE
     · show CD (if y.Kind = 9 then _ else 0)
       split
       · exact hy
       · exact CE
   · exact ih _ (fun z hz=>h z (List.mem_cons_of_mem _ hz)) x hx
end
structure XM (p : TPg) (l : Sl TEv) (t : Sl Int) (s : Sl D3) (ok : Prop) : Prop where
 yes : ∀ m',HG (aP p) l.L (Eo (aP p)) = some m' → ok ∧ t.L = WO l.L ∧ Vw s = XA (aP p) l.L (Eo (aP p))
 no : HG (aP p) l.L (Eo (aP p)) = none → ¬ ok ∧ t.n = 0 ∧ s.n = 0
theorem XK {p : TPg} (hp : Gm p) (hP : DP (aP p)) {l : Sl TEv} (hl : UU l) (hn : l.n ≤ 65536) :
 D_f4x.wp (p,l) fun y=>XM p l y.1 y.2.1 (y.2.2 = 0) ∧ (y.2.2 = 0 ∨ y.2.2 = 11):=by
 refine of_wp ?_
 simp only [tt_f4x]
 refine wC (w_f3n p hp) fun (y : Bool) hy=>AE bnI (fun z=>absurd (hy.2 hP) z) fun _=>AE ilI (fun z=>by omega) fun _=>wC (w_f1h p hp 0) fun (y : Bx TFa × Int) hy=>?_
 rcases hy with ⟨_,y2,yn,yF,ya⟩ | ⟨hno,_⟩
 rotate_left
 · exact absurd hP hno
 obtain ⟨hFC,ya⟩:=S0 hp (L0 hp) hP yF ya
 refine wN (by simp [yn]) ?_
 refine CU (tt:=tt_f4x_7) (fun x : X_f4x_7=>x.Im = l ∧ x.TI = l.n ∧ ∃ k : Nat,x.F8 = k ∧ k ≤ l.n ∧ FC p (1 + k) k x.DR ∧ HG (aP p) (l.L.take k) (Eo (aP p)) = some (aF x.DR) ∧ x.VZ.L = WO (l.L.take k) ∧ Vw x.VX = XA (aP p) (l.L.take k) (Eo (aP p)))
  (fun x=>(l.n - x.F8).toNat) (fun _ y=>XM p l y.1 y.2.1 (y.2.2 = 0) ∧ (y.2.2 = 0 ∨ y.2.2 = 11)) (fun D x hI hD=>?_)
  ⟨rfl,rfl,0,rfl,Nat.zero_le _,hFC,by rw [ya]; rfl,rfl,rfl⟩
 obtain ⟨tp,sc,l',q24,q25,f⟩:=x
 obtain ⟨e0,e1,k,e2,hk,hF,hall,htp,hsc⟩:=hI
 simp only at e0 e1 e2 hF hall htp hsc hD
 subst e0 e1 e2
 simp only [tt_f4x_7]
 have tl : tp.n ≤ k:=by
  have h1:=congrArg List.length htp
  have h2:=XC (l:=l'.L.take k)
  simp only [Sl.A8,List.length_take] at h1 h2
  omega
 have sl : sc.n = k:=by
  have h1:=congrArg List.length hsc
  rw [V1,XD,List.length_take,Sl.A8] at h1
  omega
 refine AE ilI (fun h=>?_) fun h=>of_wp ?_
 · have hkm : k < l'.n:=by omega
   refine wN (BL hkm) ?_
   rw [Int.toNat_natCast]
   have hE:=hl.e k hkm
   have hget : l'.L[k]? = some (l'.get k):=Sl.DH _ hkm
   generalize l'.get k = e at *
   have L17 : ∀ (tp' : Sl Int) (x : D3),tp'.L = WO (l'.L.take (k + 1)) → WJ x = XR (aF f) e → (D_f4x_17 D).wp ⟨tp',sc,l',(l'.n : Int),(k : Int),e,x,f⟩ fun y=>XM p l' y.1 y.2.1 (y.2.2 = 0) ∧ (y.2.2 = 0 ∨ y.2.2 = 11):=fun tp' x h1 h2=>by
    refine of_wp ?_
    simp only [tt_f4x_17]
    refine wC (JI hF hE (by omega) (by omega)) fun (w : Int × TFa) hw=>?_
    obtain ⟨w1,w2,w3⟩:=hw
    by_cases ha : Ax (aP p) (aF f) e = true
    · rw [GO ha] at w1 w2
      refine AE (p:=w.1 ≠ 0) (by rw [bnI,ieI]) (fun z=>absurd w1 z) fun _=>wN (by simp [room]; omega) (of_wp ?_)
      simp only [tt_f4x_20,CG hkm hl.n]
      refine hD _ ⟨rfl,rfl,k + 1,rfl,hkm,by rw [show (1 : Int) + ((k + 1 : Nat) : Int) = 1 + k + 1 by omega]; exact w3,?_,h1,?_⟩ (by simp only; omega)
      · rw [Xa hall hget ha]; exact congrArg some w2.symm
      · simp only
        rw [Xd,XE hget,XU _ hall,hsc,h2]
    · have ha : Ax (aP p) (aF f) e = false:=by simpa using ha
      have:=(KM (p:=aP p) (s:=aF f) ha).1
      refine AE (p:=w.1 ≠ 0) (by rw [bnI,ieI]) (fun _=>?_) fun z=>absurd (w1 ▸ this) z
      have hno:=XZ hall hget ha
      exact ⟨⟨fun m' hm=>(by rw [hno] at hm; cases hm),fun _=>⟨by simp,rfl,rfl⟩⟩,.inr rfl⟩
   have ht : WO (l'.L.take (k + 1)) = if e.Kind = 10 then WO (l'.L.take k) ++ [e.Value] else WO (l'.L.take k):=by rw [XE hget,XN]
   have hfire : AX e.Kind 7 = decide (e.Kind = 7):=BQ (by rw [ieI,decide_eq_true_eq])
   refine AE ieI (fun q8=>wC (Hg f) fun (y : Int) hy=>L17 _ _ (by rw [ht,if_neg (by omega)]; exact htp) ?_) fun q8=>AE ieI (fun q9=>L17 _ _ (by rw [ht,if_neg (by omega)]; exact htp) ?_) fun q9=>AE ieI (fun q10=>wN (by simp [room]; omega) (L17 _ _ ?_ ?_)) fun q10=>L17 _ _ (by rw [ht,if_neg q10]; exact htp) ?_
   · subst hy
     simp only [WJ,XR,hfire,if_pos q8,if_neg (show ¬ e.Kind = 9 by omega)]
     rfl
   · simp only [WJ,XR,hfire,if_neg q8,if_pos q9]
   · rw [ht,if_pos q10,← htp]; exact Uc _ _ _
   · simp only [WJ,XR,hfire,if_neg q8,if_neg q9]
   · simp only [WJ,XR,hfire,if_neg q8,if_neg q9]
 · have e : k = l'.n:=by omega
   subst e
   have et : l'.L.take l'.n = l'.L:=List.take_of_length_le (by simp)
   rw [et] at hall htp hsc
   simp only [tt_f4x_21]
   exact ⟨⟨fun m' hm=>⟨rfl,htp,hsc⟩,fun hm=>by rw [hall] at hm; cases hm⟩,.inl rfl⟩
theorem XP {p : TPg} (hP : DP (aP p)) {l : Sl TEv} (hl : UU l) (hn : l.n ≤ 65536) {t : Sl Int} {s : Sl D3} {ok : Prop} (h : XM p l t s ok) {m' : MS} (hm : HG (aP p) l.L (Eo (aP p)) = some m') :
 Wa t ∧ Wr s ∧ s.n = l.n ∧ t.n ≤ l.n ∧ VH (aP p) t.L (Vw s) (Vv (Eo (aP p))) = ⟨l.L,m',0,0⟩:=by
 obtain ⟨_,h1,h2⟩:=h.yes m' hm
 have big : (65536 : Nat) ≤ maxLen:=by decide
 have hv : ∀ e ∈ l.L,CD e.Value ∧ CD e.AG:=fun e he=>by
  obtain ⟨i,hi,rfl⟩:=Sl.CZ.1 he
  exact ⟨(hl.e i hi).vl,(hl.e i hi).tk⟩
 have tn : t.n ≤ l.n:=by
  have a:=congrArg List.length h1
  have b:=XC (l:=l.L)
  simp only [Sl.A8] at a b
  omega
 have sn : s.n = l.n:=by
  have a:=congrArg List.length h2
  rwa [V1,XD,Sl.A8] at a
 refine ⟨⟨by omega,fun i hi=>?_⟩,⟨by omega,fun i hi=>?_⟩,sn,tn,?_⟩
 · have : t.get i ∈ WO l.L:=by rw [← h1]; exact Sl.CZ.2 ⟨i,hi,rfl⟩
   unfold WO at this
   obtain ⟨e,he,hx⟩:=List.mem_map.1 this
   rw [← hx]
   exact (hv e (List.mem_filter.1 he).1).1
 · have : WJ (s.get i) ∈ XA (aP p) l.L (Eo (aP p)):=by rw [← h2]; exact List.mem_of_getElem? (Wc hi)
   have:=Xb l.L (Eo (aP p)) (fun e he=>(hv e he).1) _ this
   exact ⟨this.1,this.2⟩
 · have:=XO (p:=aP p) l.L [] (Vv (Eo (aP p))) (Pr hP) (by simp; omega) hv hm rfl rfl (by simp; omega)
   rw [h1,h2]
   exact this
theorem UC {p q : TPg} (hp : Gm p) (hq : Fz q p) {l : Sl TEv} (hl : UU l) (hn : l.n ≤ 65536) :
 D_fu.wp (q,l) fun y=>(DP (aP p) ∧ y.2.2 = 0 ∧ y.1.nil = false ∧ ∃ n : Nat,y.2.1 = n ∧ n ≤ l.n ∧ FC p (1 + ((n + 1 : Nat) : Int)) (n + 1) y.1.x ∧ D1 (aP p) l.L n (aF y.1.x)) ∨ (¬ DP (aP p) ∧ y.1.nil = true ∧ y.2 = (0,1)):=by
 refine of_wp ?_
 simp only [tt_fu]
 refine wC (w_f1h q (hq.Gm hp) 0) fun (y : Bx TFa × Int) hy=>?_
 rw [hq.same] at hy
 rcases hy with ⟨hP,y2,yn,yF,ya⟩ | ⟨hno,y2,yn⟩
 rotate_left
 · exact AE (p:=y.2 ≠ 0) (by rw [bnI,ieI]) (fun _=>.inr ⟨hno,rfl,rfl⟩) fun e=>absurd (by rw [y2]; decide) e
 rw [← hq.same] at ya
 obtain ⟨hFC,ya⟩:=S0 hp hq hP yF ya
 refine AE (p:=y.2 ≠ 0) (by rw [bnI,ieI]) (fun e=>absurd y2 e) fun _=>AE ilI (fun e=>by omega) fun _=>wN (by simp [yn]) ?_
 refine CU (tt:=tt_fu_7) (fun x : X_fu_7=>x.DS = l ∧ x.Im = l ∧ x.TI = l.n ∧ ∃ k : Nat,x.F8 = k ∧ k ≤ l.n ∧ FC p (1 + k) k x.DR ∧ HG (aP p) (l.L.take k) (Eo (aP p)) = some (aF x.DR)) (fun x=>(l.n - x.F8).toNat)
  (fun _ y=>(DP (aP p) ∧ y.2.2 = 0 ∧ y.1.nil = false ∧ ∃ n : Nat,y.2.1 = n ∧ n ≤ l.n ∧ FC p (1 + ((n + 1 : Nat) : Int)) (n + 1) y.1.x ∧ D1 (aP p) l.L n (aF y.1.x)) ∨ (¬ DP (aP p) ∧ y.1.nil = true ∧ y.2 = (0,1))) (fun D x hI hD=>?_)
  ⟨rfl,rfl,rfl,0,rfl,Nat.zero_le _,hFC,by rw [ya]; rfl⟩
 obtain ⟨l0,l',q24,q25,f⟩:=x
 obtain ⟨e0,e1,e2,k,e3,hk,hF,hA⟩:=hI
 simp only at e0 e1 e2 e3 hF hA hD
 subst e0 e1 e2 e3
 simp only [tt_fu_7]
 refine AE ilI (fun h=>?_) fun h=>of_wp ?_
 · have hkm : k < l'.n:=by omega
   have hE:=hl.e k hkm
   have hL : l'.L[k]? = some (l'.get k):=Sl.DH l' hkm
   refine wN (BL hkm) ?_
   simp only [Int.toNat_natCast]
   refine wC (JI hF hE (by omega) (by omega)) fun (y : Int × TFa) hy=>?_
   obtain ⟨y1,y2,y3⟩:=hy
   have y3' : FC p (1 + ((k + 1 : Nat) : Int)) (k + 1) y.2:=by rw [show (1 : Int) + ((k + 1 : Nat) : Int) = 1 + k + 1 by omega]; exact y3
   refine AE (p:=y.1 ≠ 0) (by rw [bnI,ieI]) (fun q=>.inl ⟨hP,rfl,rfl,k,rfl,hk,y3',?_⟩) fun q=>?_
   · have hna : Ax (aP p) (aF f) (l'.get k) = false:=by
      cases w : Ax (aP p) (aF f) (l'.get k)
      · rfl
      · exact absurd (y1.trans (Jz.2 w)) q
     change D1 (aP p) l'.L k (aF y.2)
     rw [y2,(KM hna).2]
     exact ⟨by rw [Sl.A8]; exact hk,hA,fun e he=>by rw [hL] at he; cases he; exact hna⟩
   · have hAl : Ax (aP p) (aF f) (l'.get k) = true:=Jz.1 (y1.symm.trans (Classical.byContradiction q))
     rw [GO hAl] at y2
     refine hD _ ⟨rfl,rfl,rfl,k + 1,by rw [CG hkm hl.n],hkm,y3',?_⟩ (by simp only [CG hkm hl.n]; omega)
     change _ = some (aF y.2)
     rw [y2]
     exact JF hA hL hAl
 · obtain rfl : k = l'.n:=by omega
   simp only [tt_fu_12]
   refine .inl ⟨hP,rfl,rfl,l'.n,rfl,hk,hF.grow (by omega) (by omega),by rw [Sl.A8]; exact hk,hA,fun e he=>?_⟩
   rw [Sl.DH?,if_neg (by omega)] at he
   cases he
theorem MF : D_f3f.ev 1000 PUnit.unit = some true:=by kernel_rfl
theorem Qo : D_f3f.wp PUnit.unit fun y=>y = true:=⟨true,D_f3f.GZ 1000 _ _ MF,rfl⟩
theorem w_f3q {p q : TPg} (hp : Gm p) (hq : Fz q p) {l : Sl TEv} (hl : UU l) (hn : l.n ≤ 65536) :
 D_f3q.wp (q,l) fun y=>(DP (aP p) ∧ y.2 = 0 ∧ ∃ n : Nat,y.1 = n ∧ ∃ m,D1 (aP p) l.L n m) ∨ (¬ DP (aP p) ∧ y = (0,1)):=by
 refine of_wp ?_
 simp only [tt_f3q]
 refine wC (UC hp hq hl hn) fun (y : Bx TFa × (Int × Int)) hy=>?_
 rcases hy with ⟨hP,a,_,n,c,_,_,f⟩ | ⟨h,_,g⟩
 · exact .inl ⟨hP,a,n,c,_,f⟩
 · exact .inr ⟨h,g⟩
theorem Wj (p : TPg) (hp : Gm p) : D_f4g.wp p fun y=>y = true → DP (aP p):=by
 refine of_wp ?_
 simp only [tt_f4g]
 refine wC (Td p hp) fun (y : Bool) _=>BM (fun _=>wC (law_f42 p hp) fun (z : Bool) hz=>hz.1) fun _=>fun h=>by cases h
def XF (l : Sl TEv) (n : Nat) : Sl TEv:=⟨l.nil,n,fun i=>l.get (0 + i)⟩
theorem XV {l : Sl TEv} {n : Nat} (h : n ≤ l.n) : (XF l n).L = l.L.take n:=by
 refine List.ext_getElem? fun i=>?_
 rw [Sl.DH?]
 by_cases hi : i < n
 · rw [if_pos (show i < (XF l n).n from hi),List.getElem?_take_of_lt hi,Sl.DH l (by omega)]
   simp [XF]
 · rw [if_neg (show ¬ i < (XF l n).n from hi),List.getElem?_eq_none (by rw [List.length_take]; omega)]
theorem XJ {l : Sl TEv} {n : Nat} (h : n ≤ l.n) (hl : UU l) : UU (XF l n):=⟨Nat.le_trans h hl.n,fun i hi=>hl.e _ (by have : i < n:=hi; omega)⟩
theorem XB (p : TPg) (l : Sl TEv) (hp : Gm p) (hl : UU l) : D_f4y.wp (p,l) fun y=>y = true:=by
 refine of_wp ?_
 simp only [tt_f4y]
 have aw : ∀ {k : Bool → TT Tryz.prog R_f4y} {Q},(k true).wp Q → (TT.call con_f3f PUnit.unit k).wp Q:=fun h=>wC Qo fun (y : Bool) hy=>by subst hy; exact h
 refine aw (BM (fun h=>by simp at h) fun _=>?_)
 refine wC (Wj p hp) fun (y : Bool) hy=>AE bnI (fun _=>aw rfl) fun hf=>AE ilI (fun _=>aw rfl) fun hl60=>of_wp ?_
 have hP:=hy (Classical.byContradiction hf)
 have hn : l.n ≤ 65536:=by omega
 simp only [tt_f4y_3]
 refine wC (w_f3q hp (L0 hp) hl hn) fun (y : Int × Int) hy=>?_
 obtain ⟨y1,y2⟩:=y
 rcases hy with ⟨_,h0,n,hn1,m,hs⟩ | ⟨h,_⟩
 rotate_left
 · exact absurd hP h
 simp only at h0 hn1
 subst hn1
 have hnl : n ≤ l.n:=by have:=hs.le; rwa [Sl.A8] at this
 refine AE (p:=y2 ≠ 0) (by rw [bnI,ieI]) (fun w=>absurd h0 w) fun _=>AE ilI (fun w=>by omega) fun _=>AE ilI (fun w=>by omega) fun _=>of_wp ?_
 have up : ∀ j : Nat,j ≤ l.n → upto (j : Int) l.n = true:=fun j hj=>by simp only [upto,Bool.and_eq_true,decide_eq_true_eq]; omega
 simp only [tt_f4y_6,Int.toNat_natCast,Nat.sub_zero]
 refine wN (up n hnl) ?_
 have hpre:=XJ hnl hl
 refine wC (XK hp hP hpre (show n ≤ 65536 by omega)) fun (z : Sl Int × (Sl D3 × Int)) hz=>?_
 obtain ⟨hM,_⟩:=hz
 have hall : HG (aP p) (XF l n).L (Eo (aP p)) = some m:=by rw [XV hnl]; exact hs.all
 obtain ⟨k1,k2,k3,k4,k5⟩:=XP hP hpre (show n ≤ 65536 by omega) hM hall
 have hsn : z.2.1.n = n:=k3
 have htn : z.1.n ≤ n:=k4
 refine wC (Wt hp (L0 hp) k1 k2) fun (r : Bh × Int) hr=>?_
 obtain ⟨r0,hR⟩:=hr.1 ⟨hP,by omega,by omega⟩
 have hev : r.1.R3.L = (XF l n).L:=by rw [hR.ev,k5]
 have hen : r.1.R3.n = n:=by have:=congrArg List.length hev; rw [Sl.A8,Sl.A8] at this; exact this
 refine AE (p:=z.2.2 ≠ 0) (by rw [bnI,ieI]) (fun w=>absurd (hM.yes m hall).1 w) fun _=>AE (p:=r.2 ≠ 0) (by rw [bnI,ieI]) (fun w=>absurd r0 w) fun _=>wN (up n hnl) ?_
 refine wC (XY r.1.R3 (XF l n) hev (by unfold maxLen; omega)) fun (v : Bool) hv=>?_
 subst hv
 refine BM (fun w=>by simp at w) fun _=>of_wp ?_
 simp only [tt_f4y_10]
 refine AE ieI (fun _=>rfl) fun w=>?_
 have hlt : n < l.n:=by omega
 have nx:=CG hlt hl.n
 rw [nx]
 refine wN (up (n + 1) hlt) ?_
 simp only [Int.toNat_natCast,Nat.sub_zero]
 refine wC (XK hp hP (XJ hlt hl) (show n + 1 ≤ 65536 by omega)) fun (z : Sl Int × (Sl D3 × Int)) hz=>?_
 obtain ⟨hM,h11⟩:=hz
 have hL:=Sl.DH l hlt
 have hno : HG (aP p) (XF l (n + 1)).L (Eo (aP p)) = none:=by
  rw [XV hlt]
  exact Xk hs.all hL (hs.bad _ hL) (Nat.lt_succ_self n)
 exact ieI.2 (h11.resolve_left (hM.no hno).1)
def ok_TRg (x : TRg) : Prop:=(fun n=>(Lit.int .i64 n).wf = true) x.Kind ∧ (fun n=>(Lit.int .i64 n).wf = true) x.Cn ∧ (fun n=>(Lit.int .i64 n).wf = true) x.AU ∧ True
def fl_TRg_0 : Field:=(FG Tryz.prog 101).toList.getD 0 default
def fl_TRg_1 : Field:=(FG Tryz.prog 101).toList.getD 1 default
def fl_TRg_2 : Field:=(FG Tryz.prog 101).toList.getD 2 default
theorem op_TRg : EC Tryz.prog 101 e_TRg ok_TRg :=
 EC.map (En (fs:=FG Tryz.prog 101) (l:=fl_TRg_0 :: fl_TRg_1 :: fl_TRg_2 :: []) (by kernel_rfl) (by kernel_rfl) (by kernel_rfl)
  (BT (u:=3) (s:=1) (by kernel_rfl) (by kernel_rfl) (by kernel_rfl) (Bw (k:=.i64) (by kernel_rfl)) (BT (u:=3) (s:=1) (by kernel_rfl) (by kernel_rfl) (by kernel_rfl) (Bw (k:=.i64) (by kernel_rfl)) (BT (u:=3) (s:=1) (by kernel_rfl) (by kernel_rfl) (by kernel_rfl) (Bw (k:=.i64) (by kernel_rfl)) G1)))) (fun x=>⟨x.1,x.2.1,x.2.2.1⟩) (fun _=>rfl) (fun _ h=>h)
def ok_TIn (x : TIn) : Prop:=(fun n=>(Lit.int .i64 n).wf = true) x.Op ∧ (fun n=>(Lit.int .i64 n).wf = true) x.A ∧ (fun n=>(Lit.int .i64 n).wf = true) x.B ∧ (fun n=>(Lit.int .i64 n).wf = true) x.C ∧ (fun n=>(Lit.int .i64 n).wf = true) x.D ∧ (fun n=>(Lit.int .u64 n).wf = true) x.K ∧ True
def fl_TIn_0 : Field:=(FG Tryz.prog 119).toList.getD 0 default
def fl_TIn_1 : Field:=(FG Tryz.prog 119).toList.getD 1 default
def fl_TIn_2 : Field:=(FG Tryz.prog 119).toList.getD 2 default
def fl_TIn_3 : Field:=(FG Tryz.prog 119).toList.getD 3 default
def fl_TIn_4 : Field:=(FG Tryz.prog 119).toList.getD 4 default
def fl_TIn_5 : Field:=(FG Tryz.prog 119).toList.getD 5 default
theorem op_TIn : EC Tryz.prog 119 e_TIn ok_TIn :=
 EC.map (En (fs:=FG Tryz.prog 119) (l:=fl_TIn_0 :: fl_TIn_1 :: fl_TIn_2 :: fl_TIn_3 :: fl_TIn_4 :: fl_TIn_5 :: []) (by kernel_rfl) (by kernel_rfl) (by kernel_rfl)
  (BT (u:=3) (s:=1) (by kernel_rfl) (by kernel_rfl) (by kernel_rfl) (Bw (k:=.i64) (by kernel_rfl)) (BT (u:=3) (s:=1) (by kernel_rfl) (by kernel_rfl) (by kernel_rfl) (Bw (k:=.i64) (by kernel_rfl)) (BT (u:=3) (s:=1) (by kernel_rfl) (by kernel_rfl) (by kernel_rfl) (Bw (k:=.i64) (by kernel_rfl)) (BT (u:=3) (s:=1) (by kernel_rfl) (by kernel_rfl) (by kernel_rfl) (Bw (k:=.i64) (by kernel_rfl)) (BT (u:=3) (s:=1) (by kernel_rfl) (by kernel_rfl) (by kernel_rfl) (Bw (k:=.i64) (by kernel_rfl)) (BT (u:=41) (s:=1) (by kernel_rfl) (by kernel_rfl) (by kernel_rfl) (Bw (k:=.u64) (by kernel_rfl)) G1))))))) (fun x=>⟨x.1,x.2.1,x.2.2.1,x.2.2.2.1,x.2.2.2.2.1,x.2.2.2.2.2.1⟩) (fun _=>rfl) (fun _ h=>h)
def ok_TPg (x : TPg) : Prop:=(Qb ok_TRg) x.AJ ∧ (Qb (Qb ok_TIn)) x.AB ∧ True
def fl_TPg_0 : Field:=(FG Tryz.prog 25).toList.getD 0 default
def fl_TPg_1 : Field:=(FG Tryz.prog 25).toList.getD 1 default
theorem op_TPg : EC Tryz.prog 25 e_TPg ok_TPg :=
 EC.map (En (fs:=FG Tryz.prog 25) (l:=fl_TPg_0 :: fl_TPg_1 :: []) (by kernel_rfl) (by kernel_rfl) (by kernel_rfl)
  (BT (u:=22) (s:=1) (by kernel_rfl) (by kernel_rfl) (by kernel_rfl) (FL (e:=101) (s:=3) (d_TRg .undef) (by kernel_rfl) (by kernel_rfl) (by decide) (op_TRg)) (BT (u:=23) (s:=1) (by kernel_rfl) (by kernel_rfl) (by kernel_rfl) (FL (e:=79) (s:=1) (dsl_TIn .undef) (by kernel_rfl) (by kernel_rfl) (by decide) (FL (e:=119) (s:=6) (d_TIn .undef) (by kernel_rfl) (by kernel_rfl) (by decide) (op_TIn))) G1))) (fun x=>⟨x.1,x.2.1⟩) (fun _=>rfl) (fun _ h=>h)
def ok_TEv (x : TEv) : Prop:=(fun n=>(Lit.int .i64 n).wf = true) x.Thread ∧ (fun n=>(Lit.int .i64 n).wf = true) x.Kind ∧ (fun n=>(Lit.int .i64 n).wf = true) x.Ring ∧ (fun n=>(Lit.int .u64 n).wf = true) x.AG ∧ (fun n=>(Lit.int .u64 n).wf = true) x.Value ∧ True
def fl_TEv_0 : Field:=(FG Tryz.prog 56).toList.getD 0 default
def fl_TEv_1 : Field:=(FG Tryz.prog 56).toList.getD 1 default
def fl_TEv_2 : Field:=(FG Tryz.prog 56).toList.getD 2 default
def fl_TEv_3 : Field:=(FG Tryz.prog 56).toList.getD 3 default
def fl_TEv_4 : Field:=(FG Tryz.prog 56).toList.getD 4 default
theorem op_TEv : EC Tryz.prog 56 e_TEv ok_TEv :=
 EC.map (En (fs:=FG Tryz.prog 56) (l:=fl_TEv_0 :: fl_TEv_1 :: fl_TEv_2 :: fl_TEv_3 :: fl_TEv_4 :: []) (by kernel_rfl) (by kernel_rfl) (by kernel_rfl)
  (BT (u:=3) (s:=1) (by kernel_rfl) (by kernel_rfl) (by kernel_rfl) (Bw (k:=.i64) (by kernel_rfl)) (BT (u:=3) (s:=1) (by kernel_rfl) (by kernel_rfl) (by kernel_rfl) (Bw (k:=.i64) (by kernel_rfl)) (BT (u:=3) (s:=1) (by kernel_rfl) (by kernel_rfl) (by kernel_rfl) (Bw (k:=.i64) (by kernel_rfl)) (BT (u:=41) (s:=1) (by kernel_rfl) (by kernel_rfl) (by kernel_rfl) (Bw (k:=.u64) (by kernel_rfl)) (BT (u:=41) (s:=1) (by kernel_rfl) (by kernel_rfl) (by kernel_rfl) (Bw (k:=.u64) (by kernel_rfl)) G1)))))) (fun x=>⟨x.1,x.2.1,x.2.2.1,x.2.2.2.1,x.2.2.2.2.1⟩) (fun _=>rfl) (fun _ h=>h)
theorem LV : OS Tryz.prog 25 e_TPg ok_TPg :=
 H9 (fs:=FG Tryz.prog 25) (by kernel_rfl) op_TPg (fun _=>rfl) (fun _=>rfl)
theorem US {p : TPg} (h : ok_TPg p) : Gm p:=by
 obtain ⟨⟨rz,rn,rr⟩,⟨_,tn,tt⟩,_⟩:=h
 refine ⟨rn,tn,fun t ht=>(tt t ht).2.1,fun t ht k hk=>?_,rz,fun t ht=>(tt t ht).1⟩
 obtain ⟨_,a,b,c,d,k,_⟩:=(tt t ht).2.2 k hk
 have a:=wf_i64 a; have b:=wf_i64 b; have c:=wf_i64 c; have d:=wf_i64 d
 exact ⟨wf_u64 k,by omega,by omega,by omega,by omega⟩
theorem Mj : OS Tryz.prog 26 esl_TEv (Qb ok_TEv) :=
 PE (OH (e:=56) (by kernel_rfl)) (FL (e:=56) (s:=5) (d_TEv .undef) (by kernel_rfl) (by kernel_rfl) (by decide) op_TEv) (fun _=>rfl) (fun _=>rfl)
theorem Ry {e : TEv} (h : ok_TEv e) : O3 e:=by
 obtain ⟨_,_,_,t,v,_⟩:=h
 exact ⟨wf_u64 t,wf_u64 v⟩
theorem UT {l : Sl TEv} (h : Qb ok_TEv l) : UU l:=⟨h.2.1,fun i hi=>Ry (h.2.2 i hi)⟩

open Go.ChangeShapes Go.WideShapes Go.ChangeAt Go.RowKit
theorem Tryz.own : ownKnob Tryz.prog.godebug = none:=by kernel_rfl
theorem Tryz.laidOut : laidOutB Tryz.prog = true:=by kernel_rfl
theorem Tryz.Uu : mapsRowed Tryz.prog = true:=by kernel_rfl
theorem Tryz.full : ∀ t e,t < Tryz.prog.types.size → Tryz.prog.underlying t = some (.slice e) → 0 < Tryz.prog.cellsOf e:=slices_full_of Tryz.prog (by kernel_rfl)
def Gc : Value:=.agg #[.slice none 0 0,.slice none 0 0]
open Go.ChangeShapes Go.WideShapes Go.ChangeAt Go.RowKit
def Sq (k : IntKind) (l : List Int) : Array Value:=(l.map fun z=>Value.int k z).toArray
def UQ (g : Nat) (c : Array Value) (h : Array Obj) : Array Obj:=h.modify g fun
 | .cells _ t frozen=>.cells c t frozen
 | o=>o
def I3 (os : Os) : World :=
 { World.holding Tryz.prog os ⟨#[],#[],[]⟩ with heap:=(UQ 0 (Sq .u64 [1,10,100,1000,10000,100000,1000000,10000000,100000000,1000000000,10000000000,100000000000,1000000000000,10000000000000,100000000000000,1000000000000000,10000000000000000,100000000000000000,1000000000000000000,10000000000000000000])
  (UQ 2 (Sq .u8 [0,1,28,2,29,14,24,3,30,22,20,15,25,17,4,8,31,27,13,23,21,19,16,7,26,12,18,6,11,5,10,9])
  (UQ 3 (Sq .u8 [0,1,56,2,57,49,28,3,61,58,42,50,38,29,17,4,62,47,59,36,45,43,51,22,53,39,33,30,24,18,12,5,63,55,48,27,60,41,37,16,46,35,44,21,52,32,23,11,54,26,40,15,34,20,31,10,25,14,19,9,13,8,7,6])
  (World.holding Tryz.prog os ⟨#[],#[],[]⟩).heap))) }
theorem O7 {s : ChangeSpec} {row : OpenClaim} {os : Os} {f : FuncId} {fn : Func} {F : Stop.Interp} {H : Type} {enc : TypeId × Value → H} (started : os.Started) (noInit : Tryz.prog.inits.idxOf? f = none) (hfn : Tryz.prog.funcs[f]? = some fn)
 (hwit : ∃ (w : World) (tape : Tape) (i : Input),w.os = os ∧ (w.forCall tape i).Shaped Tryz.prog ∧ i.vars = [] ∧ Input.okWide Tryz.prog (w.forCall tape i) .any w.heap.size f i ∧
   (OpenSpec.ofChange s).preRow enc Tryz.prog fn row.domain false row.laid (w.forCall tape i).memory i.args ∧ ({} : Assume).holds Tryz.prog (lone (Frame.enter Tryz.prog f i.args .normal) [] (w.forCall tape i)))
 (hp : (fn.params.toList.all fun t=>decide (t < Tryz.prog.types.size)) = true) (hvars : s.vars = []) (hr : fn.resultTypes = #[4])
 (hs : ∀ ds : List (DataW H),ds.length = fn.params.toList.length → s.fn H (ds ++ []) = { results:=[.lit (.bool true)],args:=ds })
 (IF : ∀ (W : World) (base : Nat) (args : Array Value) (ds : List (DataW H)) (ps : List MemPlace),
   (∀ (j : Nat) t v,fn.params[j]? = some t → args[j]? = some v → Value.okWide Tryz.prog W .any base t v) →
   DataW.TrodAll enc Tryz.prog W 0 (fun _=>true) true fn.params.toList args.toList ds ps →
   Calls Tryz.prog f args W fun e w'=>e = .returned (.bool true) ∧ Below W.heap.size W w') :
 ReturnsInHanded {} Tryz.checked os f .any ((OpenSpec.ofChange s).preRow enc Tryz.prog fn row.domain false row.laid) (((OpenSpec.ofChange s).at F).post enc Tryz.prog fn false true false false):=by
 refine returnsInHanded_of_row (C:=Tryz.checked) (s:=OpenSpec.ofChange s) Tryz.own started noInit hfn hwit ?_
 intro W base args ds gs before hval hW _ _ _ hL _ _
 have hW' : DataW.Whole enc Tryz.prog fn.params.toList s.vars false W args.toList ds gs before:=hW
 have hW:=hW'
 obtain ⟨p,q,hA,hV,rfl,_,_⟩:=hW
 rw [hvars] at hV
 obtain ⟨rfl,rfl⟩:=trodVars_none hV
 simp only [List.append_nil] at hW'
 refine (IF W base args ds p hval hA).mono fun e W' ⟨he,hB⟩=>⟨_,he,?_⟩
 exact QV (s:=s) Tryz.laidOut Tryz.Uu Tryz.full (fun t ht=>of_decide_eq_true (List.all_eq_true.1 hp t ht)) hvars hr (by kernel_rfl) (hs ds (Go.trodAll_length hA).2) hW' hA hB
open Go.ChangeShapes Go.WideShapes Go.ChangeAt Go.RowKit
theorem SG (os : Os) (args : Array Value) : laidMet Tryz.prog Rows.judgeCompleteRow.laid ((I3 os).forCall (fun _ _=>0) ⟨#[],args,[]⟩).memory :=
 laidMet_of_run' 8 (by kernel_rfl) (by kernel_rfl)
theorem W7 (os : Os) (started : os.Started) (H : Type) (enc : TypeId × Value → H) (F : Stop.Interp) :
 ReturnsInHanded {} Tryz.checked os 10 .any ((OpenSpec.ofChange Rows.judgeCompleteSpec).preRow enc Tryz.prog Tryz.f10 Rows.judgeCompleteRow.domain false Rows.judgeCompleteRow.laid) (((OpenSpec.ofChange Rows.judgeCompleteSpec).at F).post enc Tryz.prog Tryz.f10 false true false false):=by
 obtain ⟨x,hx⟩:=Option.isSome_iff_exists.1 (show (DataW.whole enc Tryz.prog ((I3 os).forCall (fun _ _=>0) ⟨#[],#[Gc,.slice none 0 0],[]⟩).memory Tryz.f10.params.toList Rows.judgeCompleteSpec.vars false (#[Gc,.slice none 0 0] : Array Value).toList 8).isSome = true by kernel_rfl)
 refine O7 (s:=Rows.judgeCompleteSpec) (row:=Rows.judgeCompleteRow) started (by kernel_rfl) Tryz.func10
  (witness_row_at (enc:=enc) (C:=Tryz.checked) false (I3 os) #[Gc,.slice none 0 0] rfl (by kernel_rfl) (by kernel_rfl) (by kernel_rfl)
    (OpenSpec.preRow_of_cond 8 hx (by kernel_rfl) (fun k hk=>by cases hk) (by kernel_rfl) (SG os _)))
  (by kernel_rfl) rfl rfl ?_ ?_
 · intro ds hl
   match ds,hl with
   | [_,_],_=>rfl
 · intro W base args ds ps hval hA
   rw [Tryz.params10] at hA hval
   obtain ⟨v0,v1,d0,d1,p0,p1,rfl,rfl,rfl,h0,h1⟩:=trodAll_two hA
   obtain ⟨a,ha,ra⟩:=LV H enc W base v0 d0 p0 (hval 0 25 v0 rfl rfl) h0
   obtain ⟨b,hb,rb⟩:=Mj H enc W base v1 d1 p1 (hval 1 26 v1 rfl rfl) h1
   obtain ⟨y,hy,rfl⟩:=XB a b (US ha) (UT hb)
   refine PR (con_f4y.ok (a,b) true hy) (fun j x v hx hv=>?_) rfl
   match j,hx,hv with
   | 0,hx,hv=>change some (e_TPg a) = some x at hx; cases hx; simp at hv; subst hv; exact ra
   | 1,hx,hv=>change some (esl_TEv b) = some x at hx; cases hx; simp at hv; subst hv; exact rb
theorem W9 : Rows.JudgeCompleteSaid :=
 OpenClaim.holds_of_cond 10 Tryz.f10 rfl rfl rfl rfl rfl rfl rfl ⟨rfl,rfl,rfl,rfl,rfl⟩ rfl rfl rfl rfl rfl (by kernel_rfl) Tryz.func10 (by kernel_rfl)
  (of_decide_eq_true (by kernel_rfl)) (by unfold Func.isWrapper; first | (rw [if_pos (by decide +kernel)]; kernel_rfl) | (rw [if_neg (by decide +kernel)]; exact ⟨rfl,rfl⟩))
  (fun os started H enc _ F=>by rw [OpenClaim.pre_eq_preRow]; exact W7 os started H enc F)
theorem W8 (f : FuncId) (fn : Func) (hf : Tryz.pinned.checked.prog.funcNamed "rondeau/rondeaulaw24.JudgeComplete" = some f) (hfn : Tryz.pinned.checked.prog.funcs[f]? = some fn) :
 false = Tryz.pinned.checked.prog.looks [] ∧ ∀ (j : Nat) t,fn.params[j]? = some t → Tryz.pinned.checked.prog.wantsStandIn t = false:=by
 obtain rfl : f = 10:=Option.some.inj ((show Tryz.prog.funcNamed "rondeau/rondeaulaw24.JudgeComplete" = some 10 by kernel_rfl).symm.trans hf) |>.symm
 obtain rfl : fn = Tryz.f10:=(Option.some.inj (Tryz.func10.symm.trans hfn)).symm
 refine ⟨by kernel_rfl,fun j t ht=>?_⟩
 have hall : (Tryz.f10.params.toList.all fun t=>!Tryz.prog.wantsStandIn t) = true:=by kernel_rfl
 have:=List.all_eq_true.1 hall t (Array.mem_toList_iff.2 (Array.mem_of_getElem? ht))
 exact (show Tryz.prog.wantsStandIn t = false by simpa using this)
theorem judgeComplete_holds : Rows.JudgeCompleteCardSaid :=
 Claim7.holds_tied_plain_at .later [] _ _ _ _ W9 (fun _ h=>by cases h) (by kernel_rfl) (fun _ h=>by cases h) judgeComplete_row_tie rfl ⟨rfl,rfl⟩ (by kernel_rfl) rfl W8 (by kernel_rfl)
end Go.Proofs.YtlhifcnjnmeknaaGreatDoor
end
