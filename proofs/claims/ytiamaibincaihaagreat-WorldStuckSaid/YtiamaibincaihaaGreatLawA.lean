/- Of what functions of the program do, plainly: no statement is proved here. -/
import Derived.Test.YtiamaibincaihaaGreatGC
import Derived.SizedLaws
import Derived.Test.YtiamaibincaihaaGreatRows
noncomputable section
namespace Go.Proofs.YtiamaibincaihaaGreat
open Go Go.Vm Go.Proofs
set_option maxRecDepth 10000
open Go Go.Vm
set_option maxRecDepth 100000
theorem Fw {n : Nat} (h : n ≤ maxLen) : (n : Int) ≤ 9223372036854775807 := by have := (by decide : maxLen ≤ 9223372036854775807); omega
theorem w_f2w (x : Int) : D_f2w.wp x fun y => y = true ↔ 1 ≤ x ∧ x ≤ 17 := by
 refine of_wp ?_
 simp only [tt_f2w, TT.wp, leI, ilI, ieI, bnI, ibI, Bool.and_eq_true, Bool.false_eq_true, true_iff, false_iff]
 omega
theorem w_f2y (x : TIn) : D_f2y.wp x fun y => y = true ↔ 15 ≤ x.Op ∧ x.Op ≤ 17 := by
 refine of_wp ?_
 simp only [tt_f2y, TT.wp, leI, ilI, ieI, bnI, ibI, Bool.and_eq_true, Bool.false_eq_true, true_iff, false_iff]
 omega
def LQ (x : Int) : TCl × Bool :=
 if x = 1 then (⟨7, 0, 0, 0, 18446744073709551615⟩, true)
 else if x = 2 ∨ x = 23 then (⟨7, 7, 0, 0, 0⟩, true)
 else if x = 15 then (⟨0, 0, 0, 0, 256⟩, true)
 else if x = 16 ∨ x = 17 then (⟨7, 0, 0, 0, 256⟩, true)
 else if x = 18 then (⟨7, 7, 7, 2, 0⟩, true)
 else if x = 19 then (⟨7, 7, 7, 2, 7⟩, true)
 else if x = 20 then (⟨0, 0, 7, 0, 0⟩, true)
 else if x = 21 ∨ x = 22 ∨ x = 24 then (⟨7, 0, 0, 0, 0⟩, true)
 else if x = 25 then (⟨0, 0, 0, 0, 0⟩, true)
 else (⟨7, 7, 7, 0, 0⟩, decide (1 ≤ x ∧ x ≤ 17))
theorem w_f1u (x : Int) : D_f1u.wp x fun y => y = LQ x := by
 have e : ∀ z, D_f1u_24.wp (⟨x, z⟩ : X_f1u_24) fun y => y = (⟨7, 7, 7, 0, 0⟩, decide (1 ≤ x ∧ x ≤ 17)) := by
  intro z
  refine of_wp ?_
  show (tt_f1u_24 ⟨x, z⟩).wp _
  simp only [tt_f1u_24]
  refine wC (w_f2w x) fun (y : Bool) hy => ?_
  have : y = decide (1 ≤ x ∧ x ≤ 17) := by rw [Bool.eq_iff_iff, decide_eq_true_eq]; exact hy
  subst this
  rfl
 refine of_wp ?_
 simp only [tt_f1u, TT.wp, ieI, RB, LQ]
 refine ⟨fun h => by simp [h], fun h1 => ⟨fun h => by simp [h], fun h2 => ⟨fun h => by simp [h], fun h3 => ⟨fun h => by simp [h], fun h4 => ⟨fun h => by simp [h], fun h5 => ⟨fun h => by simp [h], fun h6 => ⟨fun h => by simp [h], fun h7 =>
  ⟨fun h => by simp [h], fun h8 => ⟨fun h => by simp [h], fun h9 => ⟨fun h => by simp [h], fun h10 => ⟨fun h => by simp [h], fun h11 => ⟨fun h => by simp [h], fun h12 => ⟨fun h => by simp [h], fun h13 => ?_⟩⟩⟩⟩⟩⟩⟩⟩⟩⟩⟩⟩⟩
 simp only [h1, h2, h3, h4, h5, h6, h7, h8, h9, h10, h11, h12, h13, if_false, or_self]
 exact e _
theorem PD {i : TIn} (h0 : 0 ≤ i.K) (h1 : i.K < 18446744073709551616) :
 (LQ i.Op).2 = true ∧ (0 ≤ i.A ∧ i.A ≤ (LQ i.Op).1.a) ∧ (0 ≤ i.B ∧ i.B ≤ (LQ i.Op).1.b) ∧ (0 ≤ i.C ∧ i.C ≤ (LQ i.Op).1.c) ∧ (0 ≤ i.D ∧ i.D ≤ (LQ i.Op).1.d) ∧ i.K ≤ (LQ i.Op).1.k ↔ Bp i = true := by
 unfold LQ Bp
 simp only
 by_cases e1 : i.Op = 1
 · simp [e1]; omega
 by_cases e2 : i.Op = 2 ∨ i.Op = 23
 · simp only [e1, e2, if_false, if_true, Bool.and_eq_true, decide_eq_true_eq, true_and]; omega
 by_cases e3 : i.Op = 15
 · simp [e3]; omega
 by_cases e4 : i.Op = 16 ∨ i.Op = 17
 · have : ¬ (3 ≤ i.Op ∧ i.Op ≤ 14) := by omega
   simp only [e1, e2, e3, e4, this, if_false, if_true, Bool.and_eq_true, decide_eq_true_eq, true_and]; omega
 by_cases e5 : i.Op = 18
 · simp [e5]; omega
 by_cases e6 : i.Op = 19
 · simp [e6]; omega
 by_cases e7 : i.Op = 20
 · simp [e7]; omega
 by_cases e8 : i.Op = 21 ∨ i.Op = 22 ∨ i.Op = 24
 · have : ¬ (3 ≤ i.Op ∧ i.Op ≤ 14) := by omega
   simp only [e1, e2, e3, e4, e5, e6, e7, e8, this, if_false, if_true, Bool.and_eq_true, decide_eq_true_eq, true_and]; omega
 by_cases e9 : i.Op = 25
 · simp [e9]; omega
 by_cases e10 : 3 ≤ i.Op ∧ i.Op ≤ 14
 · have : 1 ≤ i.Op ∧ i.Op ≤ 17 := by omega
   simp only [e1, e2, e3, e4, e5, e6, e7, e8, e9, e10, this, if_false, if_true, Bool.and_eq_true, decide_eq_true_eq, true_and, and_self]; omega
 · have : ¬ (1 ≤ i.Op ∧ i.Op ≤ 17) := by omega
   simp only [e1, e2, e3, e4, e5, e6, e7, e8, e9, e10, this, if_false, decide_false, Bool.false_eq_true, false_and]
def Td (i : TIn) : Prop := (0 ≤ i.K ∧ i.K < 18446744073709551616) ∧ i.A < 9223372036854775808 ∧ i.B < 9223372036854775808 ∧ i.C < 9223372036854775808 ∧ i.D < 9223372036854775808
theorem w_f2x (i : TIn) (h : Td i) : D_f2x.wp i fun y => y = true ↔ Bp i = true := by
 refine of_wp ?_
 simp only [tt_f2x]
 refine wC (w_f1u i.Op) fun (y : TCl × Bool) hy => ?_
 subst hy
 rw [← PD h.1.1 h.1.2]
 generalize LQ i.Op = m
 obtain ⟨⟨a, b, c, d, k⟩, ok⟩ := m
 cases ok <;> simp only [TT.wp, leI, ilI, ieI, bnI, ibI, Bool.and_eq_true, Bool.false_eq_true, true_iff, false_iff, false_imp_iff, not_false_eq_true, true_imp_iff, not_true_eq_false, true_and, and_true, false_and]
 · omega
theorem w_f1v (c : TRg) : D_f1v.wp c fun y => y = true ↔ A7 c = true := by
 refine of_wp ?_
 have e : D_f1v_3.wp (⟨c⟩ : X_f1v_3) fun y => y = true ↔ (c.Kind = 1 ∧ c.Aa = 1 ∨ c.Kind = 2 ∧ 1 ≤ c.Aa ∧ c.Aa ≤ 8) := by
  refine of_wp ?_
  simp only [tt_f1v_3, TT.wp, leI, ilI, ieI, bnI, ibI, Bool.and_eq_true, Bool.false_eq_true, true_iff, false_iff]
  omega
 simp only [tt_f1v, TT.wp, leI, ilI, ieI, bnI, ibI, Bool.and_eq_true, Bool.false_eq_true, true_iff, false_iff, A7, decide_eq_true_eq]
 refine ⟨fun h => by omega, fun h1 => ⟨fun h => by omega, fun h2 => e.mono fun y hy => by rw [hy]; omega⟩⟩
theorem w_f2u (x : Int) : D_f2u.wp x fun y => y = true ↔ 18 ≤ x ∧ x ≤ 20 := by
 refine of_wp ?_
 simp only [tt_f2u, TT.wp, leI, ilI, ieI, bnI, ibI, Bool.and_eq_true, Bool.false_eq_true, true_iff, false_iff]
 omega
structure IU (p : TPg) : Prop where
 rn : p.AF.n ≤ maxLen
 tn : p.AB.n ≤ maxLen
 ln : ∀ t, t < p.AB.n → (p.AB.get t).n ≤ maxLen
 ins : ∀ t, t < p.AB.n → ∀ k, k < (p.AB.get t).n → Td ((p.AB.get t).get k)
 rz : p.AF.nil = true → p.AF.n = 0
 lz : ∀ t, t < p.AB.n → (p.AB.get t).nil = true → (p.AB.get t).n = 0
def aP (p : TPg) : MP := ⟨p.AF.L, p.AB.L.map Sl.L⟩
theorem G1 {α : Type} (s : Sl α) {i : Int} (h0 : 0 ≤ i) (h : i < s.n) (d : α) : s.L.getD i.toNat d = s.get i.toNat := by
 have : i.toNat < s.n := by omega
 rw [List.getD, Sl.Dy _ this]; rfl
theorem w_f2z (p : TPg) (i : TIn) (n : Nat) (hi : Td i) (hn : n ≤ maxLen) (hr : ∀ c ∈ p.AF.L, A7 c = true) : D_f2z.wp (p, (i, (n : Int))) fun y => y = DL p.AF.L i n := by
 refine of_wp ?_
 have hn := Fw hn
 have hw : IntKind.u64.wrap (n : Int) = n := BR (by omega) (by omega)
 simp only [tt_f2z, hw]
 refine wC (w_f2x i hi) fun (y : Bool) hy => ?_
 simp only [TT.wp, leI, ilI, ieI, bnI, ibI, Bool.and_eq_true, Bool.false_eq_true, true_iff, false_iff, hy]
 refine ⟨fun h => by simp [DL, h], fun h => ?_⟩
 have hR : Bp i = true := by simpa using h
 have hf := Be hR
 have hrd : 0 ≤ i.C → i.C < p.AF.n → IntKind.u64.wrap (p.AF.get i.C.toNat).Aa = (p.AF.L.getD i.C.toNat ⟨0, 0, 0⟩).Aa := fun h0 h1 => by
  rw [G1 _ h0 h1]
  have := Fa (hr _ (Sl.C3.2 ⟨i.C.toNat, by omega, rfl⟩))
  exact BR (by omega) (by omega)
 have e : DL p.AF.L i n = if 15 ≤ i.Op ∧ i.Op ≤ 17 ∧ (n : Int) < i.K then 5 else if 18 ≤ i.Op ∧ i.Op ≤ 20 ∧ (p.AF.n : Int) ≤ i.C then 7 else if i.Op = 19 ∧ (p.AF.L.getD i.C.toNat ⟨0, 0, 0⟩).Aa ≤ i.K then 7 else 0 := by
  simp only [DL, hR, Bool.true_eq_false, if_false, Sl.Bo]
 rw [e]
 refine P7 (w_f2y i) fun (y : Bool) hj => ?_
 simp only [hj]
 refine ⟨fun h => ⟨fun h1 => by rw [if_pos ⟨h.1, h.2, h1⟩], fun h1 => ?_⟩, fun h => ?_⟩
 all_goals
  refine P7 (w_f2u i.Op) fun (y : Bool) hg => ?_
  simp only [hg]
  refine ⟨fun h2 => ⟨fun h3 => ?_, fun h3 => ⟨fun h4 => ⟨?_, fun h5 => ?_, fun h5 => ?_⟩, fun h4 => ?_⟩⟩, fun h2 => ⟨fun h4 => by omega, fun h4 => ?_⟩⟩
  all_goals (repeat' split) <;> first | rfl | (exfalso; omega) | omega
def JI (rs : List TRg) (l : Sl TIn) : Prop := ∀ k, k < l.n → DL rs (l.get k) l.n = 0
theorem l_f3_16 (p : TPg) (hp : IU p) (hr : ∀ c ∈ p.AF.L, A7 c = true) (t : Nat) (ht : t < p.AB.n) (D11 : AS X_f3_11 R_f3) (Q : R_f3 → Prop)
 (hbad : ∀ y : Int × Int × Int, y.2.2 ≠ 0 → ¬ JI p.AF.L (p.AB.get t) → Q y) (hgood : JI p.AF.L (p.AB.get t) → D11.wp ⟨p, p.AB, p.AB.n, IntKind.i64.wrap ((t : Int) + 1)⟩ Q) :
 (D_f3_16 D11).wp ⟨p, t, p.AB.get t, p.AB, p.AB.n, t, p.AB.get t, (p.AB.get t).n, 0⟩ Q := by
 have hl := hp.ln t ht
 refine EA (fun k => (⟨p, t, p.AB.get t, p.AB, p.AB.n, t, p.AB.get t, (p.AB.get t).n, (k : Nat)⟩ : X_f3_16)) (p.AB.get t).n (fun k => ∀ j, j < k → DL p.AF.L ((p.AB.get t).get j) (p.AB.get t).n = 0) Q
  (fun D hJ => ?_) (fun D k hk hJ hD => ?_) (k := 0) (Nat.zero_le _) (fun j hj => by omega)
 · simp only [tt_f3_16, BC, Nat.lt_irrefl, decide_false, B9]
   exact of_wp (hgood hJ)
 · simp only [tt_f3_16, BC, hk, decide_true, CU, Aw hk, Ay, Int.toNat_natCast, CH hk hl]
   refine wC (w_f2z p _ _ (hp.ins t ht k hk) hl hr) fun (y : Int) hy => ?_
   subst hy
   simp only [TT.wp, bnI, ieI]
   refine ⟨fun h => hbad _ h fun hok => h (hok k hk), fun h => hD fun j hj => ?_⟩
   by_cases e : j = k
   · subst e; exact Classical.byContradiction h
   · exact hJ j (by omega)
theorem OU (p : TPg) (h1 : 1 ≤ p.AB.n) (h2 : p.AB.n ≤ 8) (h3 : p.AF.n ≤ 8) (hr : ∀ c ∈ p.AF.L, A7 c = true)
 (ht : ∀ t, t < p.AB.n → (p.AB.get t).n ≤ 256 ∧ JI p.AF.L (p.AB.get t)) : EC (aP p) where
 t1 := by simpa [aP] using h1
 t8 := by simpa [aP] using h2
 r8 := by simpa [aP] using h3
 rg := hr
 len l hl := by
  simp only [aP, List.mem_map] at hl
  obtain ⟨s, hs, rfl⟩ := hl
  obtain ⟨t, h, rfl⟩ := Sl.C3.1 hs
  simpa using (ht t h).1
 ins l hl i hi := by
  simp only [aP, List.mem_map] at hl
  obtain ⟨s, hs, rfl⟩ := hl
  obtain ⟨t, h, rfl⟩ := Sl.C3.1 hs
  obtain ⟨k, hk, rfl⟩ := Sl.C3.1 hi
  have := (ht t h).2 k hk
  simpa [aP] using this
theorem Bd {p : TPg} (h : EC (aP p)) : 1 ≤ p.AB.n ∧ p.AB.n ≤ 8 ∧ p.AF.n ≤ 8 ∧ (∀ c ∈ p.AF.L, A7 c = true) ∧ ∀ t, t < p.AB.n → (p.AB.get t).n ≤ 256 ∧ JI p.AF.L (p.AB.get t) := by
 have hm : ∀ t, t < p.AB.n → (p.AB.get t).L ∈ (aP p).AB := fun t ht => List.mem_map.2 ⟨_, Sl.C3.2 ⟨t, ht, rfl⟩, rfl⟩
 refine ⟨by simpa [aP] using h.t1, by simpa [aP] using h.t8, by simpa [aP] using h.r8, h.rg, fun t ht => ⟨by simpa using h.len _ (hm t ht), fun k hk => ?_⟩⟩
 have := h.ins _ (hm t ht) _ (Sl.C3.2 ⟨k, hk, rfl⟩)
 simpa [aP] using this
theorem l_f3_11 (p : TPg) (hp : IU p) (h1 : 1 ≤ p.AB.n) (h2 : p.AB.n ≤ 8) (h3 : p.AF.n ≤ 8) (hr : ∀ c ∈ p.AF.L, A7 c = true) :
 D_f3_11.wp ⟨p, p.AB, p.AB.n, 0⟩ fun y => y.2.2 = 0 ↔ EC (aP p) := by
 refine EA (fun k => (⟨p, p.AB, p.AB.n, (k : Nat)⟩ : X_f3_11)) p.AB.n (fun k => ∀ t, t < k → (p.AB.get t).n ≤ 256 ∧ JI p.AF.L (p.AB.get t)) _
  (fun D hJ => ?_) (fun D k hk hJ hD => ?_) (k := 0) (Nat.zero_le _) (fun j hj => by omega)
 · simp only [tt_f3_11, BC, Nat.lt_irrefl, decide_false, B9]
   exact ⟨fun _ => OU p h1 h2 h3 hr hJ, fun _ => rfl⟩
 · simp only [tt_f3_11, BC, hk, decide_true, CU, Aw hk, Ay, Int.toNat_natCast]
   refine AK ilI (fun h => ?_) (fun h => ?_)
   · show ((4 : Int) = 0 ↔ _)
     refine ⟨fun h => by omega, fun hP => ?_⟩
     have := ((Bd hP).2.2.2.2 k hk).1
     omega
   · refine l_f3_16 p hp hr k hk D _ (fun y hy hno => ⟨fun h => absurd h hy, fun hP => absurd ((Bd hP).2.2.2.2 k hk).2 hno⟩) fun hok => ?_
     rw [CH hk hp.tn]
     refine hD fun t ht => ?_
     by_cases e : t = k
     · subst e; exact ⟨by omega, hok⟩
     · exact hJ t (by omega)
theorem w_f3 (p : TPg) (hp : IU p) : D_f3.wp p fun y => y.2.2 = 0 ↔ EC (aP p) := by
 have ne : ∀ {x : Int} {q : Prop}, x ≠ 0 → ¬ q → (x = 0 ↔ q) := fun h k => ⟨fun e => absurd e h, fun e => absurd e k⟩
 refine of_wp ?_
 simp only [tt_f3]
 refine AK ieI (fun h => ?_) fun h0 => AK ilI (fun h => ?_) fun h8 => AK ilI (fun h => ?_) fun hr8 => ?_
 · exact ne (by decide) fun hP => by have := (Bd hP).1; omega
 · exact ne (by decide) fun hP => by have := (Bd hP).2.1; omega
 · exact ne (by decide) fun hP => by have := (Bd hP).2.2.1; omega
 · refine of_wp ?_
   simp only [tt_f3_4]
   refine EA (fun k => (⟨p, p.AF, p.AF.n, (k : Nat)⟩ : X_f3_5)) p.AF.n (fun k => ∀ j, j < k → A7 (p.AF.get j) = true) _
    (fun D hJ => ?_) (fun D k hk hJ hD => ?_) (k := 0) (Nat.zero_le _) (fun j hj => by omega)
   · simp only [tt_f3_5, BC, Nat.lt_irrefl, decide_false, B9]
     refine of_wp ?_
     simp only [tt_f3_10]
     exact l_f3_11 p hp (by omega) (by omega) (by omega) fun c hc => by
      obtain ⟨j, hj, rfl⟩ := Sl.C3.1 hc
      exact hJ j hj
   · simp only [tt_f3_5, BC, hk, decide_true, CU, Aw hk, Ay, Int.toNat_natCast, CH hk hp.rn]
     refine wC (w_f1v _) fun (y : Bool) hy => ?_
     simp only [TT.wp, bnI, hy]
     refine ⟨fun h => ne (by decide) fun hP => h ((Bd hP).2.2.2.1 _ (Sl.C3.2 ⟨k, hk, rfl⟩)), fun h => hD fun j hj => ?_⟩
     by_cases e : j = k
     · subst e; exact Classical.byContradiction h
     · exact hJ j (by omega)
theorem w_f2p (p : TPg) (hp : IU p) : D_f2p.wp p fun y => y = true ↔ EC (aP p) := by
 refine of_wp ?_
 simp only [tt_f2p]
 refine wC (w_f3 p hp) fun (y : Int × Int × Int) hy => ?_
 show (Ae y.2.2 0 = true ↔ _)
 rw [ieI]
 exact hy
def Cu (x : Int) : ByteArray :=
 if x = 1 then ⟨#[114, 48, 48, 48, 110]⟩
 else if x = 2 ∨ x = 23 then ⟨#[114, 114, 48, 48, 48]⟩
 else if 3 ≤ x ∧ x ≤ 14 then ⟨#[114, 114, 114, 48, 48]⟩
 else if x = 15 then ⟨#[48, 48, 48, 48, 112]⟩
 else if x = 16 ∨ x = 17 then ⟨#[114, 48, 48, 48, 112]⟩
 else if x = 18 then ⟨#[114, 114, 103, 109, 48]⟩
 else if x = 19 then ⟨#[114, 114, 103, 109, 100]⟩
 else if x = 20 then ⟨#[48, 48, 103, 48, 48]⟩
 else if x = 21 ∨ x = 22 ∨ x = 24 then ⟨#[114, 48, 48, 48, 48]⟩
 else if x = 25 then ⟨#[48, 48, 48, 48, 48]⟩
 else ⟨#[]⟩
def CX (c : Int) : Int := if c = 114 ∨ c = 103 ∨ c = 100 then 7 else if c = 109 then 2 else if c = 112 then 256 else if c = 110 then 18446744073709551615 else 0
theorem w_f3d (x : Int) : D_f3d.wp x fun y => y = Cu x := by
 refine of_wp ?_
 simp only [tt_f3d, TT.wp, ieI, leI]
 repeat' (first | apply And.intro | intro _)
 all_goals first
  | (exfalso; omega)
  | (rename_i h; subst h; rfl)
  | (unfold Cu; rw [if_neg (by omega), if_neg (by omega), if_pos (by omega)])
  | (unfold Cu; rw [if_neg (by omega), if_neg (by omega), if_neg (by omega), if_neg (by omega), if_neg (by omega), if_neg (by omega), if_neg (by omega), if_neg (by omega), if_neg (by omega), if_neg (by omega)])
theorem w_f39 (x : Int) : D_f39.wp x fun y => y = CX x := by
 refine of_wp ?_
 simp only [tt_f39, TT.wp, ieI]
 repeat' (first | apply And.intro | intro _)
 all_goals first
  | (rename_i h; subst h; rfl)
  | (unfold CX; rw [if_neg (by omega), if_neg (by omega), if_neg (by omega), if_neg (by omega)])
def Ja (i : TIn) (j : Nat) : Int := cond (Nat.beq j 0) i.A (cond (Nat.beq j 1) i.B (cond (Nat.beq j 2) i.C i.D))
theorem RH (x : Int) : Cu x = ⟨#[]⟩ ∨ (Cu x).size = 5 := by
 unfold Cu
 repeat' split
 all_goals first | exact .inr rfl | exact .inl rfl
theorem PM {i : TIn} (h : Td i) : (Cu i.Op ≠ ⟨#[]⟩ ∧ i.K ≤ CX (bt (Cu i.Op) 4) ∧ ∀ j, j < 4 → 0 ≤ Ja i j ∧ Ja i j ≤ CX (bt (Cu i.Op) j)) ↔ Bp i = true := by
 have e4 : ∀ (f : ByteArray), (∀ j, j < 4 → 0 ≤ Ja i j ∧ Ja i j ≤ CX (bt f j)) ↔ (0 ≤ i.A ∧ i.A ≤ CX (bt f 0)) ∧ (0 ≤ i.B ∧ i.B ≤ CX (bt f 1)) ∧ (0 ≤ i.C ∧ i.C ≤ CX (bt f 2)) ∧ (0 ≤ i.D ∧ i.D ≤ CX (bt f 3)) := by
  intro f
  refine ⟨fun h => ⟨h 0 (by omega), h 1 (by omega), h 2 (by omega), h 3 (by omega)⟩, fun h j hj => ?_⟩
  match j, hj with
  | 0, _ => exact h.1
  | 1, _ => exact h.2.1
  | 2, _ => exact h.2.2.1
  | 3, _ => exact h.2.2.2
 rw [e4]
 obtain ⟨⟨k0, k1⟩, _⟩ := h
 have m : CX 114 = 7 ∧ CX 48 = 0 ∧ CX 110 = 18446744073709551615 ∧ CX 112 = 256 ∧ CX 103 = 7 ∧ CX 109 = 2 ∧ CX 100 = 7 := by decide
 obtain ⟨m1, m2, m3, m4, m5, m6, m7⟩ := m
 have ne : ∀ {a b c d e : UInt8}, (⟨#[a, b, c, d, e]⟩ : ByteArray) ≠ ⟨#[]⟩ := fun h => by cases h
 have b5 : ∀ (a b c d e : UInt8), bt ⟨#[a, b, c, d, e]⟩ 0 = (a.toNat : Int) ∧ bt ⟨#[a, b, c, d, e]⟩ 1 = (b.toNat : Int) ∧ bt ⟨#[a, b, c, d, e]⟩ 2 = (c.toNat : Int) ∧ bt ⟨#[a, b, c, d, e]⟩ 3 = (d.toNat : Int) ∧ bt ⟨#[a, b, c, d, e]⟩ 4 = (e.toNat : Int) :=
  fun a b c d e => ⟨rfl, rfl, rfl, rfl, rfl⟩
 have u : (((114 : UInt8).toNat : Nat) : Int) = 114 ∧ (((48 : UInt8).toNat : Nat) : Int) = 48 ∧ (((110 : UInt8).toNat : Nat) : Int) = 110 ∧ (((112 : UInt8).toNat : Nat) : Int) = 112 ∧ (((103 : UInt8).toNat : Nat) : Int) = 103 ∧
  (((109 : UInt8).toNat : Nat) : Int) = 109 ∧ (((100 : UInt8).toNat : Nat) : Int) = 100 := by decide
 obtain ⟨u1, u2, u3, u4, u5, u6, u7⟩ := u
 have key : ∀ (a b c d e : UInt8), ((⟨#[a, b, c, d, e]⟩ : ByteArray) ≠ ⟨#[]⟩ ∧ i.K ≤ CX (bt ⟨#[a, b, c, d, e]⟩ 4) ∧ (0 ≤ i.A ∧ i.A ≤ CX (bt ⟨#[a, b, c, d, e]⟩ 0)) ∧ (0 ≤ i.B ∧ i.B ≤ CX (bt ⟨#[a, b, c, d, e]⟩ 1)) ∧ (0 ≤ i.C ∧ i.C ≤ CX (bt ⟨#[a, b, c, d, e]⟩ 2)) ∧ (0 ≤ i.D ∧ i.D ≤ CX (bt ⟨#[a, b, c, d, e]⟩ 3))) ↔
  (i.K ≤ CX e.toNat ∧ (0 ≤ i.A ∧ i.A ≤ CX a.toNat) ∧ (0 ≤ i.B ∧ i.B ≤ CX b.toNat) ∧ (0 ≤ i.C ∧ i.C ≤ CX c.toNat) ∧ (0 ≤ i.D ∧ i.D ≤ CX d.toNat)) := by
  intro a b c d e
  obtain ⟨h0, h1, h2, h3, h4⟩ := b5 a b c d e
  rw [h0, h1, h2, h3, h4]
  exact ⟨fun h => h.2, fun h => ⟨ne, h⟩⟩
 by_cases e1 : i.Op = 1
 · have hf : Cu i.Op = ⟨#[114, 48, 48, 48, 110]⟩ := by rw [e1]; rfl
   rw [hf, key, u1, u2, u3, m1, m2, m3]; unfold Bp; simp only [e1]; simp; omega
 by_cases e2 : i.Op = 2 ∨ i.Op = 23
 · have hf : Cu i.Op = ⟨#[114, 114, 48, 48, 48]⟩ := by unfold Cu; rw [if_neg e1, if_pos e2]
   rw [hf, key, u1, u2, m1, m2]; unfold Bp; simp only [e1, e2, if_false, if_true, Bool.and_eq_true, decide_eq_true_eq]; omega
 by_cases e3 : 3 ≤ i.Op ∧ i.Op ≤ 14
 · have hf : Cu i.Op = ⟨#[114, 114, 114, 48, 48]⟩ := by unfold Cu; rw [if_neg e1, if_neg e2, if_pos e3]
   rw [hf, key, u1, u2, m1, m2]; unfold Bp; simp only [e1, e2, e3, if_false, if_true, and_self, Bool.and_eq_true, decide_eq_true_eq]; omega
 by_cases e4 : i.Op = 15
 · have hf : Cu i.Op = ⟨#[48, 48, 48, 48, 112]⟩ := by rw [e4]; rfl
   rw [hf, key, u2, u4, m2, m4]; unfold Bp; simp only [e4]; simp; omega
 by_cases e5 : i.Op = 16 ∨ i.Op = 17
 · have hf : Cu i.Op = ⟨#[114, 48, 48, 48, 112]⟩ := by unfold Cu; rw [if_neg e1, if_neg e2, if_neg e3, if_neg e4, if_pos e5]
   rw [hf, key, u1, u2, u4, m1, m2, m4]; unfold Bp; simp only [e1, e2, e3, e4, e5, if_false, if_true, Bool.and_eq_true, decide_eq_true_eq]; omega
 by_cases e6 : i.Op = 18
 · have hf : Cu i.Op = ⟨#[114, 114, 103, 109, 48]⟩ := by rw [e6]; rfl
   rw [hf, key, u1, u2, u5, u6, m1, m2, m5, m6]; unfold Bp; simp only [e6]; simp; omega
 by_cases e7 : i.Op = 19
 · have hf : Cu i.Op = ⟨#[114, 114, 103, 109, 100]⟩ := by rw [e7]; rfl
   rw [hf, key, u1, u5, u6, u7, m1, m5, m6, m7]; unfold Bp; simp only [e7]; simp; omega
 by_cases e8 : i.Op = 20
 · have hf : Cu i.Op = ⟨#[48, 48, 103, 48, 48]⟩ := by rw [e8]; rfl
   rw [hf, key, u2, u5, m2, m5]; unfold Bp; simp only [e8]; simp; omega
 by_cases e9 : i.Op = 21 ∨ i.Op = 22 ∨ i.Op = 24
 · have hf : Cu i.Op = ⟨#[114, 48, 48, 48, 48]⟩ := by unfold Cu; rw [if_neg e1, if_neg e2, if_neg e3, if_neg e4, if_neg e5, if_neg e6, if_neg e7, if_neg e8, if_pos e9]
   rw [hf, key, u1, u2, m1, m2]; unfold Bp; simp only [e1, e2, e3, e4, e5, e6, e7, e8, e9, if_false, if_true, Bool.and_eq_true, decide_eq_true_eq]; omega
 by_cases e10 : i.Op = 25
 · have hf : Cu i.Op = ⟨#[48, 48, 48, 48, 48]⟩ := by rw [e10]; rfl
   rw [hf, key, u2, m2]; unfold Bp; simp only [e10]; simp; omega
 · have hf : Cu i.Op = ⟨#[]⟩ := by unfold Cu; rw [if_neg e1, if_neg e2, if_neg e3, if_neg e4, if_neg e5, if_neg e6, if_neg e7, if_neg e8, if_neg e9, if_neg e10]
   rw [hf]; unfold Bp; simp only [e1, e2, e3, e4, e5, e6, e7, e8, e9, e10, if_false, ne_eq, not_true_eq_false, false_and, Bool.false_eq_true]
theorem w_fj (i : TIn) (h : Td i) : D_fj.wp i fun y => y = true ↔ Bp i = true := by
 refine of_wp ?_
 simp only [tt_fj]
 refine wC (w_f3d i.Op) fun (y : ByteArray) hy => ?_
 subst hy
 have hR := PM h
 have hs := RH i.Op
 generalize Cu i.Op = f at hR hs
 refine AK (p := f = ⟨#[]⟩) Pk (fun he => ?_) (fun he => ?_)
 · show (false = true ↔ _)
   rw [← hR]; exact ⟨fun h => absurd h (by decide), fun h => absurd he h.1⟩
 · have hs : f.size = 5 := hs.resolve_left he
   refine wN (by rw [ibI, hs]; decide) ?_
   refine wC (w_f39 _) fun (y : Int) hy => ?_
   subst hy
   refine AK ilI (fun hk => ?_) (fun hk => ?_)
   · show (false = true ↔ _)
     rw [← hR]
     refine ⟨fun h => absurd h (by decide), fun h => ?_⟩
     have := h.2.1
     exact absurd hk (Int.not_lt.2 this)
   · refine of_wp ?_
     simp only [tt_fj_4]
     refine EA (fun k => (⟨f, ⟨false, 4, Ja i⟩, (k : Nat)⟩ : X_fj_6)) 4 (fun k => ∀ j, j < k → 0 ≤ Ja i j ∧ Ja i j ≤ CX (bt f j)) _
      (fun D hJ => ?_) (fun D k hk4 hJ hD => ?_) (k := 0) (Nat.zero_le _) (fun j hj => by omega)
     · simp only [tt_fj_6]
       refine AK ilI (fun hk => absurd hk (by decide)) (fun _ => ?_)
       show (true = true ↔ _)
       rw [← hR]
       exact ⟨fun _ => ⟨he, Int.not_lt.1 hk, hJ⟩, fun _ => rfl⟩
     · simp only [tt_fj_6]
       refine AK ilI (fun _ => ?_) (fun hk => absurd (Int.ofNat_lt.2 hk4) hk)
       refine wN (by rw [ibI]; exact ⟨Int.natCast_nonneg _, Int.ofNat_lt.2 hk4⟩) ?_
       rw [Int.toNat_natCast]
       have hb : Ja i k < 9223372036854775808 := by
        obtain ⟨_, a, b, c, d⟩ := h
        match k, hk4 with
        | 0, _ => exact a
        | 1, _ => exact b
        | 2, _ => exact c
        | 3, _ => exact d
       refine AK (p := Ja i k < 0) ilI (fun hn => ?_) (fun hn => ?_)
       · show (false = true ↔ _)
         rw [← hR]
         refine ⟨fun h => absurd h (by decide), fun h => ?_⟩
         have := (h.2.2 k hk4).1; omega
       · refine wN (by rw [ibI]; exact ⟨Int.natCast_nonneg _, Int.ofNat_lt.2 hk4⟩) (wN (by rw [ibI, hs]; omega) ?_)
         refine wC (w_f39 _) fun (y : Int) hy => ?_
         subst hy
         refine AK (p := CX (bt f k) < Ja i k) (by rw [ilI]; show CX _ < IntKind.u64.wrap (Ja i k) ↔ _; rw [BR (by omega) (by omega)]) (fun hn2 => ?_) (fun hn2 => ?_)
         · show (false = true ↔ _)
           rw [← hR]
           refine ⟨fun h => absurd h (by decide), fun h => ?_⟩
           have := (h.2.2 k hk4).2; omega
         · refine of_wp ?_
           simp only [tt_fj_7]
           have e : IntKind.i64.wrap ((k : Int) + 1) = ((k + 1 : Nat) : Int) := by rw [wrap64] <;> omega
           show D.wp ⟨f, ⟨false, 4, Ja i⟩, _⟩ _
           rw [e]
           refine hD fun j hj => ?_
           by_cases ej : j = k
           · subst ej; exact ⟨by omega, by omega⟩
           · exact hJ j (by omega)
theorem w_f3c (c : TRg) : D_f3c.wp c fun y => y = true ↔ A7 c = true := by
 refine of_wp ?_
 simp only [tt_f3c, TT.wp, leI, ilI, ieI, bnI, ibI, Bool.and_eq_true, Bool.false_eq_true, true_iff, false_iff, A7, decide_eq_true_eq]
 omega
theorem w_f1w (p : TPg) (i : TIn) (n : Nat) (hn : n ≤ maxLen) (hr : ∀ c ∈ p.AF.L, A7 c = true) (hR : Bp i = true) : D_f1w.wp (p, (i, (n : Int))) fun y => y = DL p.AF.L i n := by
 have hn := Fw hn
 have hw : IntKind.u64.wrap (n : Int) = n := BR (by omega) (by omega)
 have hf := Be hR
 have hrd : 0 ≤ i.C → i.C < p.AF.n → IntKind.u64.wrap (p.AF.get i.C.toNat).Aa = (p.AF.L.getD i.C.toNat ⟨0, 0, 0⟩).Aa := fun h0 h1 => by
  rw [G1 _ h0 h1]
  have := Fa (hr _ (Sl.C3.2 ⟨i.C.toNat, by omega, rfl⟩))
  exact BR (by omega) (by omega)
 have e : DL p.AF.L i n = if 15 ≤ i.Op ∧ i.Op ≤ 17 ∧ (n : Int) < i.K then 5 else if 18 ≤ i.Op ∧ i.Op ≤ 20 ∧ (p.AF.n : Int) ≤ i.C then 7 else if i.Op = 19 ∧ (p.AF.L.getD i.C.toNat ⟨0, 0, 0⟩).Aa ≤ i.K then 7 else 0 := by
  simp only [DL, hR, Bool.true_eq_false, if_false, Sl.Bo]
 have e3 : ¬ (15 ≤ i.Op ∧ i.Op ≤ 17 ∧ (n : Int) < i.K) → D_f1w_3.wp (⟨p, i⟩ : X_f1w_3) fun y => y = DL p.AF.L i n := by
  intro hno
  refine of_wp ?_
  rw [e, if_neg hno]
  simp only [tt_f1w_3, TT.wp, leI, ilI, ieI, bnI, ibI, Bool.and_eq_true, Bool.false_eq_true, true_iff, false_iff]
  repeat' (first | apply And.intro | intro _)
  all_goals first
   | omega
   | ((repeat' split) <;> first | rfl | (exfalso; omega) | omega)
 refine of_wp ?_
 simp only [tt_f1w, hw]
 refine AK leI (fun h => AK leI (fun h2 => AK ilI (fun h3 => ?_) (fun h3 => ?_)) (fun h2 => ?_)) (fun h => ?_)
 · show (5 : Int) = _
   rw [e, if_pos ⟨h, h2, h3⟩]
 · exact e3 fun hh => h3 hh.2.2
 · exact e3 fun hh => h2 hh.2.1
 · exact e3 fun hh => h hh.1
theorem l_f2_15 (p : TPg) (hp : IU p) (hr : ∀ c ∈ p.AF.L, A7 c = true) (t : Nat) (ht : t < p.AB.n) (D9 : AS X_f2_9 R_f2) (Q : R_f2 → Prop)
 (hbad : ∀ y : Int × Int × Int, y.2.2 ≠ 0 → ¬ JI p.AF.L (p.AB.get t) → Q y) (hgood : JI p.AF.L (p.AB.get t) → D9.wp ⟨p, IntKind.i64.wrap ((t : Int) + 1)⟩ Q) :
 (D_f2_15 D9).wp ⟨p, t, p.AB.get t, 0⟩ Q := by
 have hl := hp.ln t ht
 refine EA (fun k => (⟨p, t, p.AB.get t, (k : Nat)⟩ : X_f2_15)) (p.AB.get t).n (fun k => ∀ j, j < k → DL p.AF.L ((p.AB.get t).get j) (p.AB.get t).n = 0) Q
  (fun D hJ => ?_) (fun D k hk hJ hD => ?_) (k := 0) (Nat.zero_le _) (fun j hj => by omega)
 · simp only [tt_f2_15, BC, Nat.lt_irrefl, decide_false, B9]
   refine of_wp ?_
   simp only [tt_f2_10]
   exact hgood hJ
 · simp only [tt_f2_15, BC, hk, decide_true, CU, Aw hk, Ay, Int.toNat_natCast]
   have h20 : ∀ e, e = DL p.AF.L ((p.AB.get t).get k) (p.AB.get t).n →
    (D_f2_20 D9 D).wp (⟨p, t, p.AB.get t, k, e⟩ : X_f2_20) Q := by
    intro e he
    refine of_wp ?_
    simp only [tt_f2_20]
    refine AK (p := e ≠ 0) (by rw [bnI, ieI]) (fun h => ?_) (fun h => ?_)
    · exact hbad (_, _, e) h fun hok => h (he.trans (hok k hk))
    · refine of_wp ?_
      simp only [tt_f2_16, CH hk hl]
      refine hD fun j hj => ?_
      by_cases ej : j = k
      · subst ej; rw [← he]; exact Classical.byContradiction h
      · exact hJ j (by omega)
   refine wC (w_fj _ (hp.ins t ht k hk)) fun (y : Bool) hy => ?_
   refine AK hy (fun hR => ?_) (fun hR => ?_)
   · exact wN rfl (wC (w_f1w p _ _ hl hr hR) fun (y : Int) hy =>
     h20 y hy)
   · refine h20 6 ?_
     rw [DL, if_pos (by simpa using hR)]
theorem l_f2_9 (p : TPg) (hp : IU p) (h1 : 1 ≤ p.AB.n) (h2 : p.AB.n ≤ 8) (h3 : p.AF.n ≤ 8) (hr : ∀ c ∈ p.AF.L, A7 c = true) :
 D_f2_9.wp ⟨p, 0⟩ fun y => y.2.2 = 0 ↔ EC (aP p) := by
 refine EA (fun k => (⟨p, (k : Nat)⟩ : X_f2_9)) p.AB.n (fun k => ∀ t, t < k → (p.AB.get t).n ≤ 256 ∧ JI p.AF.L (p.AB.get t)) _
  (fun D hJ => ?_) (fun D k hk hJ hD => ?_) (k := 0) (Nat.zero_le _) (fun j hj => by omega)
 · simp only [tt_f2_9, BC, Nat.lt_irrefl, decide_false, B9]
   exact ⟨fun _ => OU p h1 h2 h3 hr hJ, fun _ => rfl⟩
 · simp only [tt_f2_9, BC, hk, decide_true, CU, Aw hk, Ay, Int.toNat_natCast]
   refine AK ilI (fun h => ?_) (fun h => ?_)
   · show ((4 : Int) = 0 ↔ _)
     refine ⟨fun h => by omega, fun hP => ?_⟩
     have := ((Bd hP).2.2.2.2 k hk).1
     omega
   · refine l_f2_15 p hp hr k hk D _ (fun y hy hno => ⟨fun h => absurd h hy, fun hP => absurd ((Bd hP).2.2.2.2 k hk).2 hno⟩) fun hok => ?_
     rw [CH hk hp.tn]
     refine hD fun t ht => ?_
     by_cases e : t = k
     · subst e; exact ⟨by omega, hok⟩
     · exact hJ t (by omega)
theorem w_f2 (p : TPg) (hp : IU p) : D_f2.wp p fun y => y.2.2 = 0 ↔ EC (aP p) := by
 have ne : ∀ {x : Int} {q : Prop}, x ≠ 0 → ¬ q → (x = 0 ↔ q) := fun h k => ⟨fun e => absurd e h, fun e => absurd e k⟩
 refine of_wp ?_
 simp only [tt_f2]
 refine AK ieI (fun h => ?_) fun h0 => AK ilI (fun h => ?_) fun h8 => AK ilI (fun h => ?_) fun hr8 => ?_
 · exact ne (by decide) fun hP => by have := (Bd hP).1; omega
 · exact ne (by decide) fun hP => by have := (Bd hP).2.1; omega
 · exact ne (by decide) fun hP => by have := (Bd hP).2.2.1; omega
 · refine of_wp ?_
   simp only [tt_f2_3]
   refine EA (fun k => (⟨p, (k : Nat)⟩ : X_f2_4)) p.AF.n (fun k => ∀ j, j < k → A7 (p.AF.get j) = true) _
    (fun D hJ => ?_) (fun D k hk hJ hD => ?_) (k := 0) (Nat.zero_le _) (fun j hj => by omega)
   · simp only [tt_f2_4, BC, Nat.lt_irrefl, decide_false, B9]
     refine of_wp ?_
     simp only [tt_f2_8]
     exact l_f2_9 p hp (by omega) (by omega) (by omega) fun c hc => by
      obtain ⟨j, hj, rfl⟩ := Sl.C3.1 hc
      exact hJ j hj
   · simp only [tt_f2_4, BC, hk, decide_true, CU, Aw hk, Ay, Int.toNat_natCast, CH hk hp.rn]
     refine wC (w_f3c _) fun (y : Bool) hy => ?_
     simp only [TT.wp, bnI, hy]
     refine ⟨fun h => ne (by decide) fun hP => h ((Bd hP).2.2.2.1 _ (Sl.C3.2 ⟨k, hk, rfl⟩)), fun h => hD fun j hj => ?_⟩
     by_cases e : j = k
     · subst e; exact Classical.byContradiction h
     · exact hJ j (by omega)
theorem w_f37 (p : TPg) (hp : IU p) : D_f37.wp p fun y => y = true ↔ EC (aP p) := by
 refine of_wp ?_
 simp only [tt_f37]
 refine wC (w_f2 p hp) fun (y : Int × Int × Int) hy => ?_
 show (Ae y.2.2 0 = true ↔ _)
 rw [ieI]
 exact hy
theorem Fk {P : Program} {X R : Type} {tt : AS X R → X → TT P R} (st : Nat → X) (N : Nat) (p : Nat → Prop) (Q : R → Prop) (hend : ∀ D, (∀ j, j < N → p j) → (tt D (st N)).wp Q)
 (hstep : ∀ (D : AS X R) k, k < N → (p k → D.wp (st (k + 1)) Q) → (tt D (st k)).wp Q) : (AS.loop tt).wp (st 0) Q :=
 EA st N (fun k => ∀ j, j < k → p j) Q hend
  (fun D k hk hJ hD => hstep D k hk fun h => hD fun j hj => by
    by_cases e : j = k
    · subst e; exact h
    · exact hJ j (by omega)) (Nat.zero_le _) fun j hj => by omega
theorem B1 {q : Prop} (h : ¬ q) : (false = true ↔ q) := ⟨fun e => absurd e (by decide), fun k => absurd k h⟩
theorem Ok {q : Prop} (h : q) : (true = true ↔ q) := ⟨fun _ => h, fun _ => rfl⟩
theorem DS {b : Bool} {p q : Prop} (hb : b = true ↔ p) (h : p ↔ q) : (b = true ↔ q) := hb.trans h
structure Cw {α : Type} (y x : Sl α) : Prop where
 n : y.n = x.n
 g : ∀ i, i < x.n → y.get i = x.get i
theorem Cw.L {α : Type} {y x : Sl α} (h : Cw y x) : y.L = x.L := Sl.S9 h.n fun i hi => h.g i (h.n ▸ hi)
theorem Cw.refl {α : Type} (x : Sl α) : Cw x x := ⟨rfl, fun _ _ => rfl⟩
def Cs {α : Type} (x : Sl α) : Prop := x.nil = true → x.n = 0
theorem Sy (i : Nat) : Nat.blt i 0 = false := rfl
theorem room_le {n b : Nat} (h : n * b ≤ 140737488351232) : (true && room (0 + n) b) = true := by simp [room]; omega
theorem Gl (x : Sl Int) (h : Cs x) (hn : x.n * 8 ≤ 140737488351232) : D_f1q.wp x fun y => Cw y x ∧ Cs y := by
 refine of_wp ?_
 simp only [tt_f1q]
 refine Az (fun e => ⟨⟨(h e).symm, fun i hi => by have := h e; omega⟩, fun _ => rfl⟩) fun _ => wN (room_le hn) ⟨⟨?_, fun i _ => rfl⟩, fun e => ?_⟩
 · exact Nat.zero_add _
 · simp only [Bool.cond_self, Bool.false_eq_true] at e
theorem Hk (x : Sl Int) (h : Cs x) (hn : x.n * 8 ≤ 140737488351232) : D_f1n.wp x fun y => Cw y x ∧ Cs y := by
 refine of_wp ?_
 simp only [tt_f1n]
 refine Az (fun e => ⟨⟨(h e).symm, fun i hi => by have := h e; omega⟩, fun _ => rfl⟩) fun _ => wN (room_le hn) ⟨⟨?_, fun i _ => rfl⟩, fun e => ?_⟩
 · exact Nat.zero_add _
 · simp only [Bool.cond_self, Bool.false_eq_true] at e
theorem JS (x : Sl TSo) (h : Cs x) (hn : x.n * 24 ≤ 140737488351232) : D_f1f.wp x fun y => Cw y x ∧ Cs y := by
 refine of_wp ?_
 simp only [tt_f1f]
 refine Az (fun e => ⟨⟨(h e).symm, fun i hi => by have := h e; omega⟩, fun _ => rfl⟩) fun _ => wN (room_le hn) ⟨⟨?_, fun i _ => rfl⟩, fun e => ?_⟩
 · exact Nat.zero_add _
 · simp only [Bool.cond_self, Bool.false_eq_true] at e
theorem LG (x : Sl TIn) (h : Cs x) (hn : x.n * 48 ≤ 140737488351232) : D_f1l.wp x fun y => Cw y x ∧ Cs y := by
 refine of_wp ?_
 simp only [tt_f1l]
 refine Az (fun e => ⟨⟨(h e).symm, fun i hi => by have := h e; omega⟩, fun _ => rfl⟩) fun _ => wN (room_le hn) ⟨⟨?_, fun i _ => rfl⟩, fun e => ?_⟩
 · exact Nat.zero_add _
 · simp only [Bool.cond_self, Bool.false_eq_true] at e
theorem ME (x : Sl TRg) (h : Cs x) (hn : x.n * 24 ≤ 140737488351232) : D_f1s.wp x fun y => Cw y x ∧ Cs y := by
 refine of_wp ?_
 simp only [tt_f1s]
 refine Az (fun e => ⟨⟨(h e).symm, fun i hi => by have := h e; omega⟩, fun _ => rfl⟩) fun _ => wN (room_le hn) ⟨⟨?_, fun i _ => rfl⟩, fun e => ?_⟩
 · exact Nat.zero_add _
 · simp only [Bool.cond_self, Bool.false_eq_true] at e
theorem JT (x : Ar TSo) (h : 0 < x.n) (hn : x.n * 24 ≤ 140737488351232) : D_fr.wp x fun y => Cw y ⟨false, x.n, x.get⟩ ∧ Cs y := by
 refine Bs ?_
 simp only [tt_fr]
 refine wN (by simpa [Nat.blt_eq] using h) (wN (by simpa [room] using hn) ⟨⟨Nat.zero_add _, fun i _ => ?_⟩, fun e => ?_⟩)
 · simp [Sy]
 · simp only [Bool.cond_self, Bool.false_eq_true] at e
theorem Hl (x : Ar Int) (h : 0 < x.n) (hn : x.n * 8 ≤ 140737488351232) : D_fw.wp x fun y => Cw y ⟨false, x.n, x.get⟩ ∧ Cs y := by
 refine Bs ?_
 simp only [tt_fw]
 refine wN (by simpa [Nat.blt_eq] using h) (wN (by simpa [room] using hn) ⟨⟨Nat.zero_add _, fun i _ => ?_⟩, fun e => ?_⟩)
 · simp [Sy]
 · simp only [Bool.cond_self, Bool.false_eq_true] at e
theorem FQ (x : Ar TTh) (h : 0 < x.n) (hn : x.n * 128 ≤ 140737488351232) : D_fg.wp x fun y => Cw y ⟨false, x.n, x.get⟩ ∧ Cs y := by
 refine Bs ?_
 simp only [tt_fg]
 refine wN (by simpa [Nat.blt_eq] using h) (wN (by simpa [room] using hn) ⟨⟨Nat.zero_add _, fun i _ => ?_⟩, fun e => ?_⟩)
 · simp [Sy]
 · simp only [Bool.cond_self, Bool.false_eq_true] at e
def Se (n : Nat) (i : TIn) : Prop := Bp i = true ∧ ¬ (15 ≤ i.Op ∧ i.Op ≤ 17 ∧ (n : Int) < i.K)
def codeOk (l : Sl TIn) : Prop := l.n ≤ 256 ∧ ∀ k, k < l.n → Se l.n (l.get k)
structure Pw (l : Sl TIn) : Prop where
 n : l.n ≤ maxLen
 i : ∀ k, k < l.n → Td (l.get k)
theorem w_f2j (i : TIn) (l : Sl TIn) (hi : Td i) (hl : l.n ≤ 256) : D_f2j.wp (i, l) fun y => y = true ↔ ¬ Se l.n i := by
 refine of_wp ?_
 simp only [tt_f2j]
 refine wC (w_f2x i hi) fun (y : Bool) hy => ?_
 refine AK bnI (fun h => Ok fun hc => h (hy.2 hc.1)) fun h => ?_
 have hR := hy.1 (Classical.byContradiction h)
 refine wC (w_f2y i) fun (z : Bool) hz => ?_
 refine AK hz (fun hj => ?_) fun hj => B1 fun k => k ⟨hR, fun hh => hj ⟨hh.1, hh.2.1⟩⟩
 refine DS ilI ?_
 rw [BR (by omega) (by omega)]
 exact ⟨fun h k => k.2 ⟨hj.1, hj.2, h⟩, fun h => Classical.byContradiction fun h2 => h ⟨hR, fun hh => h2 hh.2.2⟩⟩
theorem IZ (l m : Sl TIn) (hl : Pw l) (hm : m.n ≤ 256) : D_f7.wp (l, m) fun y => 0 ≤ y ↔ ¬ ∀ k, k < l.n → Se m.n (l.get k) := by
 refine of_wp ?_
 simp only [tt_f7]
 refine Fk (fun k => (⟨l, m, l.n, (k : Nat)⟩ : X_f7_2)) l.n (fun k => Se m.n (l.get k)) _ (fun D hJ => ?_) (fun D k hk hD => ?_)
 · simp only [tt_f7_2, BC, Nat.lt_irrefl, decide_false, B9]
   exact ⟨fun h => absurd h (by decide), fun h => absurd hJ h⟩
 · simp only [tt_f7_2, BC, hk, decide_true, CU, Aw hk, Ay, Int.toNat_natCast, CH hk hl.n]
   refine wC (w_f2j _ m (hl.i k hk) hm) fun (y : Bool) hy => ?_
   refine AK hy (fun h => ⟨fun _ k2 => h (k2 k hk), fun _ => Int.natCast_nonneg k⟩) fun h => hD (Classical.byContradiction h)
theorem w_f30 (l : Sl TIn) (hl : Pw l) : D_f30.wp l fun y => y = true ↔ codeOk l := by
 refine of_wp ?_
 simp only [tt_f30]
 refine AK ilI (fun h => B1 fun k => by have := k.1; omega) fun h => ?_
 have e : D_fk.wp (l, l) fun y => y = true ↔ ¬ ∀ k, k < l.n → Se l.n (l.get k) := by
  refine of_wp ?_
  simp only [tt_fk]
  refine wC (IZ l l hl (by omega)) fun (y : Int) hy => DS leI hy
 refine wC e fun (y : Bool) hy => ?_
 refine DS bnI ?_
 rw [hy]
 exact ⟨fun k => ⟨by omega, Classical.byContradiction k⟩, fun k k2 => k2 k.2⟩
def aT (t : TTh) : MT := ⟨t.At, t.Phase, t.Ring, t.Status, t.AG, t.Ao, t.Seen.L⟩
theorem Jb (l : Sl TIn) {a : Int} (h0 : 0 ≤ a) (h1 : a < l.n) : gI l.L a = l.get a.toNat := by unfold gI; exact G1 l h0 h1 zI
theorem w_fo (l : Sl TIn) (t : TTh) (hl : Pw l) (hk : 0 ≤ t.AG) : D_fo.wp (l, t) fun y => y = true ↔ codeOk l ∧ E3 l.L (aT t) := by
 refine of_wp ?_
 simp only [tt_fo]
 refine wC (w_f30 l hl) fun (y : Bool) hy => ?_
 refine AK bnI (fun h => B1 fun k => h (hy.2 k.1)) fun h => ?_
 have hc := hy.1 (Classical.byContradiction h)
 have a1 : E3 l.L (aT t) → t.At ≤ l.n := fun k => by have := k.a1; simpa [aT] using this
 refine AK ilI (fun h => B1 fun k => absurd k.2.a0 (Int.not_le.2 h)) fun h0 => AK ilI (fun h => B1 fun k => absurd (a1 k.2) (Int.not_le.2 h)) fun h1 =>
  AK ilI (fun h => B1 fun k => absurd k.2.st.1 (Int.not_le.2 h)) fun h2 => AK ilI (fun h => B1 fun k => absurd k.2.st.2 (Int.not_le.2 h)) fun h3 =>
  AK ilI (fun h => B1 fun k => absurd k.2.ph.1 (Int.not_le.2 h)) fun h4 => AK ilI (fun h => B1 fun k => absurd k.2.ph.2 (Int.not_le.2 h)) fun h5 => ?_
 refine of_wp ?_
 simp only [tt_fo_3]
 have mk : (t.Phase = 0 → t.Ring = 0 ∧ t.AG = 0) → (t.Phase ≠ 0 → t.Status = 0 ∧ t.At < l.n ∧ (l.get t.At.toNat).Op = 17 + t.Phase ∧ (l.get t.At.toNat).C = t.Ring ∧ t.AG < 4611686018427387904) → codeOk l ∧ E3 l.L (aT t) := by
  intro p0 p1
  refine ⟨hc, Int.not_lt.1 h0, ?_, ⟨Int.not_lt.1 h2, Int.not_lt.1 h3⟩, ⟨Int.not_lt.1 h4, Int.not_lt.1 h5⟩, p0, fun hp => ?_⟩
  · simpa [aT] using h1
  · obtain ⟨a, b, c, d, e⟩ := p1 hp
    refine ⟨a, by simpa [aT] using b, ?_, ?_, hk, e⟩
    · show (gI l.L t.At).Op = _; rw [Jb l (by omega) b]; exact c
    · show (gI l.L t.At).C = _; rw [Jb l (by omega) b]; exact d
 have un : E3 l.L (aT t) → t.Phase ≠ 0 → t.Status = 0 ∧ t.At < l.n ∧ (l.get t.At.toNat).Op = 17 + t.Phase ∧ (l.get t.At.toNat).C = t.Ring ∧ t.AG < 4611686018427387904 := by
  intro k hp
  obtain ⟨a, b, c, d, _, e⟩ := k.p1 hp
  have b : t.At < l.n := by simpa [aT] using b
  change (gI l.L t.At).Op = _ at c
  change (gI l.L t.At).C = _ at d
  rw [Jb l (by omega) b] at c d
  exact ⟨a, b, c, d, e⟩
 refine AK ieI (fun hp => AK ieI (fun hr => ?_) fun hr => B1 fun k => hr (k.2.p0 hp).1) fun hp => ?_
 · refine DS ieI ⟨fun ht => mk (fun _ => ⟨hr, ht⟩) fun h => absurd hp h, fun k => (k.2.p0 hp).2⟩
 · refine AK (p := t.Status ≠ 0) (by rw [bnI, ieI]) (fun hs => B1 fun k => hs (k.2.p1 hp).1) fun hs => AK ieI (fun ha => B1 fun k => by have := (un k.2 hp).2.1; omega) fun ha => ?_
   refine of_wp ?_
   simp only [tt_fo_7]
   have hw : IntKind.i64.wrap (t.Phase - 1) = t.Phase - 1 := wrap64 (by omega) (by omega)
   refine wN (by rw [ibI]; omega) (wN (by rw [ibI, hw]; omega) ?_)
   have ho : (cond (Nat.beq (Int.toNat (IntKind.i64.wrap (t.Phase - 1))) 0) (18 : Int) (19 : Int)) = 17 + t.Phase := by
    rw [hw]
    rcases (by omega : t.Phase = 1 ∨ t.Phase = 2) with e | e <;> rw [e] <;> rfl
   rw [ho]
   refine AK ieI (fun e1 => AK ieI (fun e2 => ?_) fun e2 => B1 fun k => e2 (un k.2 hp).2.2.2.1) fun e1 => B1 fun k => e1 (un k.2 hp).2.2.1
   exact DS ilI ⟨fun ht => mk (fun h => absurd h hp) fun _ => ⟨Classical.byContradiction hs, by omega, e1, e2, ht⟩, fun k => (un k.2 hp).2.2.2.2⟩
structure SF (x : TSo) : Prop where
 s0 : 0 ≤ x.AQ
 s1 : x.AQ < 18446744073709551616
 l0 : -9223372036854775808 ≤ x.Left
 l1 : x.Left ≤ 9223372036854775807
structure Mc (c nr : Int) (i : Nat) (x : TSo) : Prop where
 s1 : x.AQ < 9223372036854775808
 U4 : x.AQ / 2 % c = i
 free : x.AQ % 2 = 0 → x.Value = 0 ∧ x.Left = 0
 held : x.AQ % 2 = 1 → 1 ≤ x.Left ∧ x.Left < 2 ^ nr.toNat
theorem w_f33 (c r : Int) : D_f33.wp (c, r) fun y => y = true ↔ 1 ≤ c ∧ c ≤ 64 ∧ 1 ≤ r ∧ r ≤ 8 := by
 refine of_wp ?_
 simp only [tt_f33, TT.wp, leI, Bool.false_eq_true, false_iff]
 omega
theorem JC {r : Int} (h1 : 1 ≤ r) (h8 : r ≤ 8) : shl IntKind.i64 1 r = 2 ^ r.toNat := by
 rcases (by omega : r = 1 ∨ r = 2 ∨ r = 3 ∨ r = 4 ∨ r = 5 ∨ r = 6 ∨ r = 7 ∨ r = 8) with e | e | e | e | e | e | e | e <;> subst e <;> rfl
theorem w_f1o (i : Nat) (c r : Int) (x : TSo) (hx : SF x) (hc : 1 ≤ c ∧ c ≤ 64 ∧ 1 ≤ r ∧ r ≤ 8) (hi : (i : Int) < 9223372036854775808) : D_f1o.wp ((i : Int), (c, (r, x))) fun y => y = true ↔ Mc c r i x := by
 refine of_wp ?_
 have h0 := hx.s0
 have hs := hx.s1
 simp only [tt_f1o]
 have hd : Int.tdiv x.AQ 2 = x.AQ / 2 := Int.tdiv_eq_ediv_of_nonneg h0
 have hw1 : IntKind.u64.wrap (x.AQ / 2) = x.AQ / 2 := BR (by omega) (by omega)
 have hw2 : IntKind.u64.wrap c = c := BR (by omega) (by omega)
 have hw3 : IntKind.u64.wrap (i : Int) = i := BR (by omega) (by omega)
 have hm : Int.tmod (x.AQ / 2) c = x.AQ / 2 % c := Int.tmod_eq_emod_of_nonneg (by omega)
 have hm2 : Int.tmod x.AQ 2 = x.AQ % 2 := Int.tmod_eq_emod_of_nonneg h0
 rw [hd, hw1, hw2, hw3, hm]
 refine AK leI (fun h => B1 fun k => absurd k.s1 (Int.not_lt.2 h)) fun h => wN (by rw [bnI, ieI]; omega) (AK (p := x.AQ / 2 % c ≠ i) (by rw [bnI, ieI]) (fun h => B1 fun k => h k.U4) fun h2 => ?_)
 refine of_wp ?_
 simp only [tt_f1o_3]
 rw [hm2]
 have h2 := Classical.byContradiction h2
 refine AK ieI (fun e => AK ieI (fun e2 => DS ieI ⟨fun e3 => ⟨by omega, h2, fun _ => ⟨e2, e3⟩, fun e4 => by omega⟩, fun k => (k.free e).2⟩) fun e2 => B1 fun k => e2 (k.free e).1) fun e => ?_
 refine AK leI (fun e2 => wN (by rw [leI]; omega) ?_) fun e2 => B1 fun k => e2 (k.held (by omega)).1
 refine DS ilI ?_
 rw [JC hc.2.2.1 hc.2.2.2]
 exact ⟨fun e3 => ⟨by omega, h2, fun e4 => absurd e4 e, fun _ => ⟨e2, e3⟩⟩, fun k => (k.held (by omega)).2⟩
def Ow (c r : Int) (l : Sl TSo) : Prop := (l.n : Int) = c ∧ ∀ i, i < l.n → Mc c r i (l.get i)
structure VB (l : Sl TSo) : Prop where
 n : l.n ≤ maxLen
 x : ∀ i, i < l.n → SF (l.get i)
 z : Cs l
theorem w_fs (c r : Int) (l : Sl TSo) (hl : VB l) (hc : 1 ≤ c ∧ c ≤ 64 ∧ 1 ≤ r ∧ r ≤ 8) :
 D_fs.wp (c, (r, l)) fun y => (Ow c r l ∧ y.2 = 0 ∧ y.1.nil = false ∧ Cw y.1.x.l l ∧ y.1.x.AO = r ∧ Cs y.1.x.l) ∨ (¬ Ow c r l ∧ y.2 = 3 ∧ y.1.nil = true) := by
 refine of_wp ?_
 simp only [tt_fs]
 refine wC (w_f33 c r) fun (y : Bool) hy => ?_
 refine AK bnI (fun h => absurd (hy.2 hc) h) fun _ => ?_
 refine AK (p := (l.n : Int) ≠ c) (by rw [bnI, ieI]) (fun h => .inr ⟨fun k => h k.1, rfl, rfl⟩) fun h => ?_
 have hn := Classical.byContradiction h
 refine Fk (fun k => (⟨c, r, l, l, l.n, (k : Nat)⟩ : X_fs_6)) l.n (fun k => Mc c r k (l.get k)) _ (fun D hJ => ?_) (fun D k hk hD => ?_)
 · simp only [tt_fs_6, BC, Nat.lt_irrefl, decide_false, B9]
   refine of_wp ?_
   simp only [tt_fs_11]
   refine wC (JS l hl.z (by omega)) fun (y : Sl TSo) hy => ?_
   exact .inl ⟨⟨hn, hJ⟩, rfl, rfl, hy.1, rfl, hy.2⟩
 · simp only [tt_fs_6, BC, hk, decide_true, CU, Aw hk, Ay, Int.toNat_natCast, CH hk hl.n]
   refine wC (w_f1o k c r _ (hl.x k hk) hc (by have := Fw hl.n; omega)) fun (y : Bool) hy => ?_
   refine AK bnI (fun h => .inr ⟨fun kk => h (hy.2 (kk.2 k hk)), rfl, rfl⟩) fun h => hD (hy.1 (Classical.byContradiction h))
def On (c : Int) (x : TSo) (h : Int) (j : Nat) : Prop :=
 (x.AQ % 2 = 1 → E2 x.Left j = false → x.AQ / 2 < h) ∧ (x.AQ % 2 = 0 → c ≤ x.AQ / 2 → x.AQ / 2 - c < h)
def Gn (c tail : Int) (AD : Sl Int) (x : TSo) : Prop := (x.AQ % 2 = 1 → x.AQ / 2 < tail) ∧ ∀ j, j < AD.n → On c x (AD.get j) j
theorem UB : ∀ (x : Fin 256) (j : Fin 8), decide (Vm.bits .and IntKind.i64 (shr IntKind.i64 (x.val : Int) (j.val : Int)) 1 = 0) = !E2 (x.val : Int) (j.val : Int) := by decide +kernel
theorem OQ {x : Int} {j : Nat} (h0 : 0 ≤ x) (h1 : x < 256) (hj : j < 8) : Vm.bits .and IntKind.i64 (shr IntKind.i64 x (j : Int)) 1 = 0 ↔ E2 x (j : Int) = false := by
 have := UB ⟨x.toNat, by omega⟩ ⟨j, hj⟩
 simp only [show ((x.toNat : Nat) : Int) = x by omega] at this
 exact decide_eq_true_iff.symm.trans (by rw [this]; simp)
structure VC (l : Sl Int) : Prop where
 n : l.n ≤ 8
 h : ∀ j, j < l.n → 0 ≤ l.get j ∧ l.get j < 18446744073709551616
theorem LB (x : TSo) (r : TRr) (hx : 0 ≤ x.AQ ∧ x.AQ < 9223372036854775808) (hl : 0 ≤ x.Left ∧ x.Left < 256) (hh : VC r.AA.AD) (hm : 0 ≤ r.most ∧ r.most ≤ 64) :
 D_f0.wp (x, r) fun y => y = true ↔ Gn r.most r.AA.tail r.AA.AD x := by
 refine Bs ?_
 simp only [tt_f0]
 have hd : Int.tdiv x.AQ 2 = x.AQ / 2 := Int.tdiv_eq_ediv_of_nonneg hx.1
 have hw1 : IntKind.u64.wrap (x.AQ / 2) = x.AQ / 2 := BR (by omega) (by omega)
 have hm2 : Int.tmod x.AQ 2 = x.AQ % 2 := Int.tmod_eq_emod_of_nonneg hx.1
 rw [hd, hw1, hm2]
 have h5 : (x.AQ % 2 = 1 → x.AQ / 2 < r.AA.tail) → D_f0_5.wp (⟨x, x.AQ / 2, Ae (x.AQ % 2) 1, r⟩ : X_f0_5) fun y => y.1 = true ↔ Gn r.most r.AA.tail r.AA.AD x := by
  intro ht
  refine of_wp ?_
  simp only [tt_f0_5]
  refine Fk (fun k => (⟨x, x.AQ / 2, Ae (x.AQ % 2) 1, r.AA.AD.n, (k : Nat), r⟩ : X_f0_6)) r.AA.AD.n (fun k => On r.most x (r.AA.AD.get k) k) _ (fun D hJ => ?_) (fun D k hk hD => ?_)
  · simp only [tt_f0_6, BC, Nat.lt_irrefl, decide_false, B9]
    exact wN (by simp) (Ok ⟨ht, hJ⟩)
  · have hn := hh.n
    have hg := hh.h k hk
    have e2 : IntKind.i64.wrap ((k : Int) + 1) = ((k + 1 : Nat) : Int) := by rw [wrap64] <;> omega
    simp only [tt_f0_6, BC, hk, decide_true, CU, Aw hk, Ay, Int.toNat_natCast, Nat.zero_add]
    refine wN (by simp) ?_
    have hb := OQ hl.1 hl.2 (Nat.lt_of_lt_of_le hk hn)
    have h12 : On r.most x (r.AA.AD.get k) k → (D_f0_12 D).wp (⟨x, x.AQ / 2, Ae (x.AQ % 2) 1, r.AA.AD.n, k, r⟩ : X_f0_12) fun y => y.1 = true ↔ Gn r.most r.AA.tail r.AA.AD x := fun hc => by
     refine of_wp ?_
     simp only [tt_f0_12, e2]
     exact hD hc
    refine AK ieI (fun ho => ?_) fun ho => ?_
    · have nh : ∀ {t e : TT Tryz.prog RR_f0} {Q}, e.wp Q → (TT.ite (!(Ae (x.AQ % 2) 1)) t e).wp Q := fun h => Az (fun k => by rw [bnI, ieI] at k; exact absurd ho k) fun _ => h
      refine wN (by rw [leI]; omega) (AK (ieI.trans hb) (fun hz => AK leI (fun hle => wN (by simp) (B1 fun kk => ?_)) fun hle => nh (h12 ⟨fun _ _ => by omega, fun e => by omega⟩)) fun hz => nh (h12 ⟨fun _ e => absurd e hz, fun e => by omega⟩))
      have := (kk.2 k hk).1 ho hz
      omega
    · refine Az (fun _ => AK leI (fun h1 => ?_) fun h1 => h12 ⟨fun e => absurd e ho, fun _ e => absurd e h1⟩) fun k => absurd (bnI.2 fun e => ho (ieI.1 e)) k
      rw [BR (by omega) (by omega)]
      refine AK leI (fun h2 => wN (by simp) (B1 fun kk => ?_)) fun h2 => h12 ⟨fun e => absurd e ho, fun _ _ => by omega⟩
      have := (kk.2 k hk).2 (by omega) h1
      omega
 refine AK ieI (fun ho => AK leI (fun ht => B1 fun k => absurd (k.1 ho) (Int.not_lt.2 ht)) fun ht => h5 fun _ => by omega) fun ho => h5 fun e => absurd e ho
structure UZ (s : TRs) : Prop where
 t0 : 0 ≤ s.A6
 t1 : s.A6 < 18446744073709551616
 hn : s.Aj.n ≤ maxLen
 hh : ∀ j, j < s.Aj.n → 0 ≤ s.Aj.get j ∧ s.Aj.get j < 18446744073709551616
 hz : Cs s.Aj
 ss : VB s.A4
structure Nc (c : TRg) (s : TRs) : Prop where
 sl : Ow c.Ee c.Aa s.A4
 rd : (s.Aj.n : Int) = c.Aa
 tb : s.A6 < 4611686018427387904
 h0 : ∀ j, j < s.Aj.n → s.Aj.get j ≤ s.A6 ∧ s.A6 - s.Aj.get j ≤ c.Ee
 st : ∀ i, i < s.A4.n → Gn c.Ee s.A6 s.Aj (s.A4.get i)
theorem E9 {c : TRg} (h : A7 c = true) : 1 ≤ c.Ee ∧ c.Ee ≤ 64 ∧ 1 ≤ c.Aa ∧ c.Aa ≤ 8 := by
 simp only [A7, decide_eq_true_eq] at h; omega
theorem Nk {c r : Int} {i : Nat} {x : TSo} (h : Mc c r i x) (h8 : r ≤ 8) : 0 ≤ x.Left ∧ x.Left < 256 := by
 rcases (by omega : x.AQ % 2 = 0 ∨ x.AQ % 2 = 1) with e | e
 · have := h.free e; omega
 · have := h.held e
   have h2 : (2 : Int) ^ r.toNat ≤ 2 ^ 8 := by exact_mod_cast Nat.pow_le_pow_right (by decide) (by omega : r.toNat ≤ 8)
   omega
structure Od (c : TRg) (r : TRr) : Prop where
 sn : r.s.nil = false
 rd : r.s.x.AO = c.Aa
 ms : r.most = c.Ee
 hz : Cs r.AA.AD
 lz : Cs r.s.x.l
 hn : (r.AA.AD.n : Int) = c.Aa
 ln : (r.s.x.l.n : Int) = c.Ee
def aR (r : TRr) : MR := ⟨r.AA.tail, r.AA.AD.L, r.closed, r.s.x.l.L⟩
def K9 (s : TRs) : MR := ⟨s.A6, s.Aj.L, s.Bj, s.A4.L⟩
theorem w_f3a (c : TRg) : D_f3a.wp c fun y => y = true ↔ (c.Kind = 1 ∧ c.Aa = 1 ∨ c.Kind = 2) := by
 refine of_wp ?_
 simp only [tt_f3a, TT.wp, ieI, Bool.false_eq_true, true_iff, false_iff]
 omega
theorem w_f2a (x : Int) (h0 : 0 ≤ x) (h1 : x < 9223372036854775808) : D_f2a.wp x fun y => y = 2 * x := by
 refine of_wp ?_
 simp only [tt_f2a]
 exact BR (by omega) (by omega)
def ND (i : Nat) : TSo := ⟨2 * (i : Int), 0, 0⟩
theorem w_f1k (c r : Int) (hi : 1 ≤ c ∧ c ≤ 64 ∧ 1 ≤ r ∧ r ≤ 8) :
 D_f1k.wp (c, r) fun y => y.2 = 0 ∧ y.1.nil = false ∧ Cw y.1.x.l ⟨false, c.toNat, ND⟩ ∧ y.1.x.AO = r ∧ Cs y.1.x.l := by
 refine of_wp ?_
 simp only [tt_f1k]
 refine wC (w_f33 c r) fun (y : Bool) hy => ?_
 refine AK bnI (fun h => absurd (hy.2 hi) h) fun _ => ?_
 obtain ⟨n, rfl⟩ : ∃ n : Nat, c = n := ⟨c.toNat, by omega⟩
 simp only [Int.toNat_natCast]
 refine wN (by simp [upto, room, B6]; omega) (wN (by simp) ?_)
 have hl := by
  refine Di (tt := tt_f1k_5) (fun x : X_f1k_5 => x.LO = n ∧ ∃ k : Nat, x.Gs = k ∧ k ≤ n ∧ x.GO.l.nil = false ∧ x.GO.l.n = n ∧ x.GO.AO = r ∧ (∀ i, i < n → x.GO.l.get i = if i < k then ND i else ⟨0, 0, 0⟩)) (fun x => (n - x.Gs).toNat)
   (fun _ y => y.2 = 0 ∧ y.1.nil = false ∧ Cw y.1.x.l ⟨false, n, ND⟩ ∧ y.1.x.AO = r ∧ Cs y.1.x.l) (fun D x hI hD => ?_) (x := (⟨n, 0, ⟨⟨false, n, fun _ => ⟨0, 0, 0⟩⟩, r⟩⟩ : X_f1k_5)) ⟨rfl, 0, rfl, by omega, rfl, rfl, rfl, fun i _ => by simp⟩
  obtain ⟨e0, k, e1, hk, hz, hn, hr, hg⟩ := hI
  obtain ⟨q21, q22, ⟨⟨z, m, g⟩, rr⟩⟩ := x
  simp only at e0 e1 hz hn hr hg hD
  subst e0 e1 hz hn hr
  simp only [tt_f1k_5]
  refine AK ilI (fun h => ?_) fun h => ?_
  · have hkm : k < m := by omega
    rw [BR (by omega) (by omega)]
    refine wC (w_f2a k (by omega) (by omega)) fun (y : Int) hy => ?_
    subst hy
    refine wN (Aw hkm) (wN (by simp) (wN (by simp) ?_))
    have e2 : IntKind.i64.wrap ((k : Int) + 1) = ((k + 1 : Nat) : Int) := by rw [wrap64] <;> omega
    rw [e2]
    refine hD _ ⟨rfl, k + 1, rfl, hkm, rfl, rfl, rfl, fun i hi => ?_⟩ (by simp only; omega)
    simp only [Int.toNat_natCast, Nat.zero_add]
    by_cases e : i = k
    · subst e
      have := hg i hi
      simp only [this, Nat.lt_irrefl, if_false, Nat.beq_refl, cond_true, ND]
      rw [if_pos (by omega)]
    · have hb : Nat.beq i k = false := Bool.eq_false_iff.2 fun h => e (Nat.eq_of_beq_eq_true h)
      simp only [hb, cond_false, hg i hi]
      by_cases e3 : i < k
      · rw [if_pos e3, if_pos (by omega)]
      · rw [if_neg e3, if_neg (by omega)]
  · have : k = m := by omega
    subst this
    refine ⟨rfl, rfl, ⟨rfl, fun i hi => ?_⟩, rfl, fun e => by cases e⟩
    show g i = ND i
    rw [hg i hi, if_pos hi]
 exact hl
theorem Nd (n : Nat) (b : Bool) : (⟨b, n, fun _ => (0 : Int)⟩ : Sl Int).L = List.replicate n 0 := by
 apply List.ext_getElem
 · simp
 · intro i h1 h2; simp [Sl.EX]
theorem w_f29 (c : TRg) (hc : A7 c = true) : D_f29.wp c fun y => y.2 = 0 ∧ y.1.nil = false ∧ Od c y.1.x ∧ aR y.1.x = JG c := by
 have hf := E9 hc
 refine of_wp ?_
 simp only [tt_f29]
 refine wC (w_f1k c.Ee c.Aa hf) fun (y : Bx TSs × Int) hy => ?_
 obtain ⟨⟨bn, ⟨sl, rd⟩⟩, er⟩ := y
 obtain ⟨rfl, rfl, hs, rfl, hz⟩ := hy
 refine AK (p := (0 : Int) ≠ 0) (by rw [bnI, ieI]) (fun h => absurd rfl h) fun _ => ?_
 refine wC (w_f3a c) fun (z : Bool) hz' => ?_
 refine AK bnI (fun h => absurd (hz'.2 (by simp only [A7, decide_eq_true_eq] at hc; omega)) h) fun _ => ?_
 refine of_wp ?_
 simp only [tt_f29_4]
 have hroom : c.Aa.toNat * 8 ≤ 140737488351232 := by omega
 refine wN (by simp [upto, room, B6, hroom]; omega) ⟨rfl, rfl, ⟨rfl, rfl, BR (by omega) (by omega), fun e => by (cases e), hz, by show ((c.Aa.toNat : Nat) : Int) = _; omega, by show (sl.n : Int) = _; rw [hs.n]; show ((c.Ee.toNat : Nat) : Int) = _; omega⟩, ?_⟩
 show (⟨0, _, false, sl.L⟩ : MR) = _
 rw [hs.L, Nd]
 rfl
theorem w_f9 (c : TRg) (s : TRs) (hc : A7 c = true) (hs : UZ s) :
 D_f9.wp (c, s) fun y => (Nc c s ∧ y.2 = 0 ∧ y.1.nil = false ∧ Od c y.1.x ∧ aR y.1.x = K9 s) ∨ (¬ Nc c s ∧ y.2 = 3) := by
 have hf := E9 hc
 refine of_wp ?_
 simp only [tt_f9]
 refine wC (w_f29 c hc) fun (y : Bx TRr × Int) hy => ?_
 obtain ⟨⟨bn, r⟩, er⟩ := y
 obtain ⟨h0, h1, hw, _⟩ := hy
 simp only at h0 h1 hw
 subst h0 h1
 refine AK (p := (0 : Int) ≠ 0) (by rw [bnI, ieI]) (fun h => absurd rfl h) fun _ => ?_
 refine wC (w_fs c.Ee c.Aa s.A4 hs.ss hf) fun (z : Bx TSs × Int) hz => ?_
 obtain ⟨⟨zn, ⟨zl, zr⟩⟩, ze⟩ := z
 rcases hz with ⟨hsl, he, hzn, hsame, hrd, hlz⟩ | ⟨hno, he, _⟩
 · simp only at he hzn hsame hrd hlz
   subst he hzn hrd
   refine AK (p := (0 : Int) ≠ 0) (by rw [bnI, ieI]) (fun h => absurd rfl h) fun _ => ?_
   refine AK (p := (s.Aj.n : Int) ≠ c.Aa) (by rw [bnI, ieI]) (fun h => .inr ⟨fun k => h k.rd, rfl⟩) fun h1 => AK leI (fun h => .inr ⟨fun k => absurd k.tb (Int.not_lt.2 h), rfl⟩) fun h2 => ?_
   have h1 := Classical.byContradiction h1
   refine wN rfl ?_
   refine of_wp ?_
   simp only [tt_f9_7]
   refine wC (Hk s.Aj hs.hz (by omega)) fun (hd : Sl Int) hhd => ?_
   obtain ⟨hsm, hhz⟩ := hhd
   have t0 := hs.t0
   have hnn : hd.n = s.Aj.n := hsm.n
   rw [hnn]
   refine Fk (fun k => (⟨s, s.Aj.n, (k : Nat), ⟨⟨s.A6, hd⟩, ⟨false, ⟨zl, c.Aa⟩⟩, r.most, s.Bj⟩⟩ : X_f9_9)) s.Aj.n (fun j => s.Aj.get j ≤ s.A6 ∧ s.A6 - s.Aj.get j ≤ c.Ee) _ (fun D hJ => ?_) (fun D k hk hD => ?_)
   · simp only [tt_f9_9, BC, Nat.lt_irrefl, decide_false, B9]
     refine wN (by simp) (of_wp ?_)
     simp only [tt_f9_14]
     refine Fk (fun k => (⟨s.A4, s.A4.n, (k : Nat), ⟨⟨s.A6, hd⟩, ⟨false, ⟨zl, c.Aa⟩⟩, r.most, s.Bj⟩⟩ : X_f9_15)) s.A4.n (fun i => Gn c.Ee s.A6 s.Aj (s.A4.get i)) _ (fun D hJ2 => ?_) (fun D k hk hD => ?_)
     · simp only [tt_f9_15, BC, Nat.lt_irrefl, decide_false, B9]
       refine .inl ⟨⟨hsl, h1, by omega, hJ, hJ2⟩, rfl, rfl, ⟨rfl, rfl, hw.ms, hhz, hlz, by show (hd.n : Int) = _; omega, by show (zl.n : Int) = _; rw [hsame.n]; exact hsl.1⟩, ?_⟩
       · show (⟨s.A6, hd.L, s.Bj, zl.L⟩ : MR) = _
         rw [hsm.L, hsame.L]; rfl
     · have hx := hs.ss.x k hk
       have hp := hsl.2 k hk
       simp only [tt_f9_15, BC, hk, decide_true, CU, Aw hk, Ay, Int.toNat_natCast, CH hk hs.ss.n]
       have hok : VC hd := ⟨by omega, fun j hj => by rw [hsm.g j (by omega)]; exact hs.hh j (by omega)⟩
       refine wC (LB _ ⟨⟨s.A6, hd⟩, ⟨false, ⟨zl, c.Aa⟩⟩, r.most, s.Bj⟩ ⟨hx.s0, hp.s1⟩ (Nk hp hf.2.2.2) hok (by rw [hw.ms]; omega)) fun (y : Bool) hy => ?_
       have heq : Gn r.most s.A6 hd (s.A4.get k) ↔ Gn c.Ee s.A6 s.Aj (s.A4.get k) := by
        rw [hw.ms]
        unfold Gn
        rw [hsm.n]
        exact and_congr_right fun _ => ⟨fun h j hj => by have := h j hj; rwa [hsm.g j hj] at this, fun h j hj => by rw [hsm.g j hj]; exact h j hj⟩
       rw [heq] at hy
       exact AK bnI (fun h => .inr ⟨fun kk => h (hy.2 (kk.st k hk)), rfl⟩) fun h => hD (hy.1 (Classical.byContradiction h))
   · have hg := hs.hh k hk
     have hkd : k < hd.n := by omega
     simp only [tt_f9_9, BC, hk, decide_true, CU, Aw hkd, Ay, Int.toNat_natCast, Nat.zero_add, hsm.g k hk]
     refine wN (by simp) (AK ilI (fun h => wN (by simp) (.inr ⟨fun kk => ?_, rfl⟩)) fun h => ?_)
     · have := (kk.h0 k hk).1; omega
     · rw [BR (by omega) (by omega), hw.ms]
       refine AK ilI (fun h => wN (by simp) (.inr ⟨fun kk => ?_, rfl⟩)) fun h => ?_
       · have := (kk.h0 k hk).2; omega
       · refine of_wp ?_
         simp only [tt_f9_13, CH hk hs.hn]
         rw [← hw.ms]
         exact hD ⟨by omega, by omega⟩
 · simp only at he
   subst he
   exact AK (p := (3 : Int) ≠ 0) (by rw [bnI, ieI]) (fun _ => .inr ⟨fun k => hno k.sl, rfl⟩) fun h => absurd (by decide) h
theorem NH {X R : Type} {D : AS X R} {x x' : X} {Q : R → Prop} (h : D.wp x' Q) (e : x = x') : D.wp x Q := e ▸ h
theorem EW {α β γ : Type} {s : Sl α} {t : Sl β} {f : α → γ} {g : β → γ} (hn : s.n = t.n) (h : ∀ i, i < t.n → f (s.get i) = g (t.get i)) : s.L.map f = t.L.map g := by
 apply List.ext_getElem
 · simp [hn]
 · intro i h1 h2
   simp only [List.getElem_map, Sl.EX]
   exact h i (by simpa using h2)
def snoc {α : Type} (s : Sl α) (y : α) : Sl α := ⟨false, s.n + 1, fun i => cond (Nat.blt i s.n) (s.get i) y⟩
def KF {α : Type} (s : Sl α) (k : Nat) (y : α) : Sl α := ⟨s.nil, s.n, fun i => cond (Nat.beq i k) y (s.get i)⟩
theorem IJ {i n : Nat} (h : i < n) : Nat.blt i n = true := by rw [Nat.blt_eq]; exact h
theorem OM (n : Nat) : Nat.blt n n = false := Bool.eq_false_iff.2 fun h => by rw [Nat.blt_eq] at h; omega
theorem I7 {i k : Nat} (h : i ≠ k) : Nat.beq i k = false := Bool.eq_false_iff.2 fun e => h (Nat.eq_of_beq_eq_true e)
theorem Jn {α : Type} {s : Sl α} {y : α} {i : Nat} (h : i < s.n) : (snoc s y).get i = s.get i := by simp [snoc, IJ h]
theorem Jo {α : Type} {s : Sl α} {y : α} : (snoc s y).get s.n = y := by simp [snoc, OM]
theorem Jp {α : Type} {s : Sl α} {y : α} {i k : Nat} (h : i ≠ k) : (KF s k y).get i = s.get i := by simp [KF, I7 h]
theorem Hr {α : Type} {s : Sl α} {y : α} {k : Nat} : (KF s k y).get k = y := by simp [KF]
structure Gd (y p : TPg) : Prop where
 r : Cw y.AF p.AF
 rz : Cs y.AF
 n : y.AB.n = p.AB.n
 t : ∀ t, t < p.AB.n → Cw (y.AB.get t) (p.AB.get t) ∧ Cs (y.AB.get t)
theorem Gd.same {y p : TPg} (h : Gd y p) : aP y = aP p := by
 unfold aP
 rw [h.r.L, EW h.n fun i hi => (h.t i hi).1.L]
theorem Cw.Pw {y x : Sl TIn} (h : Cw y x) (hx : Pw x) : Pw y := ⟨h.n ▸ hx.n, fun k hk => by rw [h.g k (h.n ▸ hk)]; exact hx.i k (h.n ▸ hk)⟩
theorem Gd.IU {y p : TPg} (h : Gd y p) (hp : IU p) : IU y where
 rn := h.r.n ▸ hp.rn
 tn := h.n ▸ hp.tn
 ln t ht := by rw [(h.t t (h.n ▸ ht)).1.n]; exact hp.ln t (h.n ▸ ht)
 ins t ht k hk := by
  have := (h.t t (h.n ▸ ht)).1
  rw [this.g k (this.n ▸ hk)]; exact hp.ins t (h.n ▸ ht) k (this.n ▸ hk)
 rz := h.rz
 lz t ht := (h.t t (h.n ▸ ht)).2
theorem w_fu (p : TPg) (hp : IU p) (hP : EC (aP p)) : D_fu.wp p fun y => Gd y p := by
 obtain ⟨_, h8, hr8, _, hl⟩ := Bd hP
 refine of_wp ?_
 simp only [tt_fu]
 refine wC (ME p.AF hp.rz (by omega)) fun (y : Sl TRg) hy => ?_
 refine Di (tt := tt_fu_3) (fun x : X_fu_3 => x.R6 = p.AB ∧ x.TW = p.AB.n ∧ ∃ k : Nat, x.O3 = k ∧ k ≤ p.AB.n ∧ x.Dh.AF = y ∧ x.Dh.AB.n = k ∧ ∀ t, t < k → Cw (x.Dh.AB.get t) (p.AB.get t) ∧ Cs (x.Dh.AB.get t))
  (fun x => (p.AB.n - x.O3).toNat) (fun _ y => Gd y p) (fun D x hI hD => ?_) ⟨rfl, rfl, 0, rfl, by omega, rfl, rfl, fun t ht => by omega⟩
 obtain ⟨e0, e1, k, e2, hk, e3, hn, hg⟩ := hI
 obtain ⟨q11, q12, q13, m2, ⟨mr, mt⟩⟩ := x
 simp only at e0 e1 e2 e3 hn hg hD
 subst e0 e1 e2 e3 hn
 simp only [tt_fu_3]
 refine AK ilI (fun h => ?_) fun h => ?_
 · have hkm : mt.n < p.AB.n := by omega
   refine wN (Aw hkm) ?_
   rw [Int.toNat_natCast]
   refine wC (LG (p.AB.get mt.n) (hp.lz _ hkm) (by have := (hl _ hkm).1; omega)) fun (z : Sl TIn) hz => ?_
   refine wN (by simp [room]; omega) ?_
   rw [CH hkm hp.tn]
   refine NH (x' := ⟨p.AB, p.AB.n, ((mt.n + 1 : Nat) : Int), m2, ⟨mr, snoc mt z⟩⟩) (hD _ ⟨rfl, rfl, mt.n + 1, rfl, hkm, rfl, rfl, fun t ht => ?_⟩ (by simp only; omega)) ?_
   · by_cases e : t = mt.n
     · subst e; simp only [Jo]; exact hz
     · have : t < mt.n := by omega
       simp only [Jn this]; exact hg t this
   · refine congrArg (fun g => X_fu_3.mk p.AB p.AB.n ((mt.n + 1 : Nat) : Int) m2 ⟨mr, ⟨false, mt.n + 1, g⟩⟩) (funext fun i => ?_)
     cases Nat.blt i mt.n <;> rfl
 · exact ⟨hy.1, hy.2, by simp only; omega, fun t ht => hg t (by omega)⟩
structure HV (b : Nat) (t : TTh) : Prop where
 k0 : 0 ≤ t.AG
 k1 : t.AG < 18446744073709551616
 rg : ∀ j, 0 ≤ t.Ao j ∧ t.Ao j < 18446744073709551616
 sz : Cs t.Seen
 sb : t.Seen.n ≤ b
theorem S5 (b : Nat) : HV b ⟨0, 0, 0, 0, 0, fun _ => 0, ⟨true, 0, fun _ => 0⟩⟩ := ⟨by decide, by decide, fun _ => ⟨Int.le_refl 0, (by decide : (0 : Int) < 18446744073709551616)⟩, fun _ => rfl, Nat.zero_le _⟩
structure UL (p : TPg) (b : Nat) (f : TFa) : Prop where
 cp : Gd f.p p
 tn : f.threads.n = p.AB.n
 tw : ∀ t, t < f.threads.n → HV b (f.threads.get t)
 rn : f.rings.n = p.AF.n
 rw : ∀ i, i < f.rings.n → (f.rings.get i).nil = false ∧ Od (p.AF.get i) (f.rings.get i).x
def aF (f : TFa) : MS := ⟨f.threads.L.map aT, f.rings.L.map fun r => aR r.x, f.now, f.reads, f.ended⟩
def aS (s : TSt) : MS := ⟨s.AB.L.map aT, s.AF.L.map K9, s.ED, s.Reads, s.Bt⟩
theorem rg_of {p : TPg} (hP : EC (aP p)) {i : Nat} (h : i < p.AF.n) : A7 (p.AF.get i) = true := (Bd hP).2.2.2.1 _ (Sl.C3.2 ⟨i, h, rfl⟩)
theorem w_f12 (p : TPg) (hp : IU p) (b : Nat) :
 D_f12.wp p fun y => (EC (aP p) ∧ y.2 = 0 ∧ y.1.nil = false ∧ UL p b y.1.x ∧ aF y.1.x = Cr (aP p)) ∨ (¬ EC (aP p) ∧ y.2 = 1 ∧ y.1.nil = true) := by
 refine of_wp ?_
 simp only [tt_f12]
 refine wC (w_f2p p hp) fun (y : Bool) hy => ?_
 refine AK bnI (fun h => .inr ⟨fun k => h (hy.2 k), rfl, rfl⟩) fun h => ?_
 have hP := hy.1 (Classical.byContradiction h)
 obtain ⟨_, h8, hr8, _, hl⟩ := Bd hP
 refine wC (w_fu p hp hP) fun (q : TPg) hq => ?_
 refine wN (by simp [upto, room, B6]; omega) ?_
 rw [Int.toNat_natCast]
 refine Di (tt := tt_f12_5) (fun x : X_f12_5 => x.LO = p.AF ∧ x.Gs = p.AF.n ∧ ∃ k : Nat, x.C2 = k ∧ k ≤ p.AF.n ∧ x.CI.p = q ∧ x.CI.threads = ⟨false, p.AB.n, fun _ => ⟨0, 0, 0, 0, 0, fun _ => 0, ⟨true, 0, fun _ => 0⟩⟩⟩ ∧ x.CI.now = 0 ∧ x.CI.reads = 0 ∧ x.CI.ended = false ∧
  x.CI.rings.n = k ∧ ∀ i, i < k → (x.CI.rings.get i).nil = false ∧ Od (p.AF.get i) (x.CI.rings.get i).x ∧ aR (x.CI.rings.get i).x = JG (p.AF.get i))
  (fun x => (p.AF.n - x.C2).toNat) (fun _ y => (EC (aP p) ∧ y.2 = 0 ∧ y.1.nil = false ∧ UL p b y.1.x ∧ aF y.1.x = Cr (aP p)) ∨ (¬ EC (aP p) ∧ y.2 = 1 ∧ y.1.nil = true)) (fun D x hI hD => ?_) ⟨rfl, rfl, 0, rfl, by omega, rfl, rfl, rfl, rfl, rfl, rfl, fun t ht => by omega⟩
 obtain ⟨e0, e1, k, e2, hk, e3, e4, e5, e6, e7, hn, hg⟩ := hI
 obtain ⟨q21, q22, q23, ⟨mp, mt, mr, mn, md, me⟩⟩ := x
 simp only at e0 e1 e2 e3 e4 e5 e6 e7 hn hg hD
 subst e0 e1 e2 e3 e4 e5 e6 e7 hn
 simp only [tt_f12_5]
 refine AK ilI (fun h => ?_) fun h => ?_
 · have hkm : mr.n < p.AF.n := by omega
   refine wN (Aw hkm) ?_
   rw [Int.toNat_natCast]
   refine wC (w_f29 (p.AF.get mr.n) (rg_of hP hkm)) fun (z : Bx TRr × Int) hz => ?_
   refine wN (by simp [room]; omega) ?_
   rw [CH hkm hp.rn]
   refine NH (x' := ⟨p.AF, p.AF.n, ((mr.n + 1 : Nat) : Int), ⟨mp, _, snoc mr z.1, 0, 0, false⟩⟩) (hD _ ⟨rfl, rfl, mr.n + 1, rfl, hkm, rfl, rfl, rfl, rfl, rfl, rfl, fun t ht => ?_⟩ (by simp only; omega)) ?_
   · by_cases e : t = mr.n
     · subst e; simp only [Jo]; exact ⟨hz.2.1, hz.2.2⟩
     · have : t < mr.n := by omega
       simp only [Jn this]; exact hg t this
   · refine congrArg (fun g => X_f12_5.mk p.AF p.AF.n ((mr.n + 1 : Nat) : Int) ⟨mp, _, ⟨false, mr.n + 1, g⟩, 0, 0, false⟩) (funext fun i => ?_)
     cases Nat.blt i mr.n <;> rfl
 · have hrn : mr.n = p.AF.n := by omega
   refine .inl ⟨hP, rfl, rfl, ⟨hq, rfl, fun t _ => S5 b, hrn, fun i hi => ⟨(hg i hi).1, (hg i hi).2.1⟩⟩, ?_⟩
   unfold aF Cr
   simp only [MS.mk.injEq, and_true]
   refine ⟨?_, ?_⟩
   · simp only [aP, List.map_map]
     exact EW rfl fun i _ => rfl
   · exact EW hrn fun i hi => (hg i (hrn ▸ hi)).2.2
theorem L4 {α β γ : Type} {s : Sl α} {t : Sl β} {f : α → γ} {g : β → γ} (h : s.L.map f = t.L.map g) : s.n = t.n ∧ ∀ i, i < t.n → f (s.get i) = g (t.get i) := by
 have hn : s.n = t.n := by simpa using congrArg List.length h
 refine ⟨hn, fun i hi => ?_⟩
 have h2 := congrArg (fun l => l[i]?) h
 simp only [List.getElem?_map, Sl.Dy s (hn ▸ hi), Sl.Dy t hi, Option.map_some, Option.some.injEq] at h2
 exact h2
theorem w_f1y (a b : Sl Int) (h : a.L = b.L) (hm : a.n ≤ maxLen) : D_f1y.wp (a, b) fun y => y = true := by
 obtain ⟨hn, hg⟩ := Sl.L6 h
 refine of_wp ?_
 simp only [tt_f1y]
 refine AK (p := (a.n : Int) ≠ b.n) (by rw [bnI, ieI]) (fun e => absurd (by rw [hn]) e) fun _ => ?_
 refine Fk (fun k => (⟨a, b, (k : Nat)⟩ : X_f1y_4)) a.n (fun _ => True) _ (fun D hJ => ?_) (fun D k hk hD => ?_)
 · simp only [tt_f1y_4, BC, Nat.lt_irrefl, decide_false, B9]; rfl
 · have hk2 : k < b.n := hn ▸ hk
   simp only [tt_f1y_4, BC, hk, decide_true, CU, Aw hk, Aw hk2, Ay, Int.toNat_natCast, CH hk hm, hg k hk]
   exact Az (fun e => absurd (ieI.2 rfl) (bnI.1 e)) fun _ => hD trivial
theorem w_f1z (a b : Sl TSo) (h : a.L = b.L) (hm : a.n ≤ maxLen) : D_f1z.wp (a, b) fun y => y = true := by
 obtain ⟨hn, hg⟩ := Sl.L6 h
 refine of_wp ?_
 simp only [tt_f1z]
 refine AK (p := (a.n : Int) ≠ b.n) (by rw [bnI, ieI]) (fun e => absurd (by rw [hn]) e) fun _ => ?_
 refine Fk (fun k => (⟨a, b, (k : Nat)⟩ : X_f1z_4)) a.n (fun _ => True) _ (fun D hJ => ?_) (fun D k hk hD => ?_)
 · simp only [tt_f1z_4, BC, Nat.lt_irrefl, decide_false, B9]; rfl
 · have hk2 : k < b.n := hn ▸ hk
   simp only [tt_f1z_4, BC, hk, decide_true, CU, Aw hk, Aw hk2, Ay, Int.toNat_natCast, CH hk hm, hg k hk]
   exact Az (fun e => absurd (by simp only [ieI.2, Bool.and_true]) (bnI.1 e)) fun _ => hD trivial
theorem w_f19 (a b : TRs) (h : K9 a = K9 b) (hm : a.Aj.n ≤ maxLen) (hs : a.A4.n ≤ maxLen) : D_f19.wp (a, b) fun y => y = true := by
 simp only [K9, MR.mk.injEq] at h
 obtain ⟨h1, h2, h3, h4⟩ := h
 obtain ⟨hn, hg⟩ := Sl.L6 h2
 refine of_wp ?_
 simp only [tt_f19]
 refine Az (fun e => absurd (ieI.2 h1) (bnI.1 e)) fun _ => Az (fun e => absurd (by rw [h3]; simp) (bnI.1 e)) fun _ => Az (fun e => absurd (ieI.2 (by rw [hn])) (bnI.1 e)) fun _ => ?_
 refine wC (w_f1z _ _ h4 hs) fun (y : Bool) hy => ?_
 subst hy
 refine Az (fun e => absurd rfl (bnI.1 e)) fun _ => of_wp ?_
 simp only [tt_f19_3]
 refine Fk (fun k => (⟨a, b, (k : Nat)⟩ : X_f19_4)) a.Aj.n (fun _ => True) _ (fun D hJ => ?_) (fun D k hk hD => ?_)
 · simp only [tt_f19_4, BC, Nat.lt_irrefl, decide_false, B9]; rfl
 · have hk2 : k < b.Aj.n := hn ▸ hk
   simp only [tt_f19_4, BC, hk, decide_true, CU, Aw hk, Aw hk2, Ay, Int.toNat_natCast, CH hk hm, hg k hk]
   exact Az (fun e => absurd (ieI.2 rfl) (bnI.1 e)) fun _ => hD trivial
theorem w_f3e (a b : TTh) (h : aT a = aT b) (hm : a.Seen.n ≤ maxLen) : D_f3e.wp (a, b) fun y => y = true := by
 simp only [aT, MT.mk.injEq] at h
 obtain ⟨h1, h2, h3, h4, h5, h6, h7⟩ := h
 refine of_wp ?_
 simp only [tt_f3e, h1, h2, h3, h4, h5, h6]
 have ee : ∀ z : Int, Ae z z = true := fun z => ieI.2 rfl
 simp only [ee, CU, Bool.and_self]
 exact wC (w_f1y _ _ h7 hm) fun (y : Bool) hy => hy
structure okS (b : Nat) (s : TSt) : Prop where
 tn : s.AB.n ≤ maxLen
 rn : s.AF.n ≤ maxLen
 ts : ∀ t, t < s.AB.n → HV b (s.AB.get t)
 rs : ∀ i, i < s.AF.n → UZ (s.AF.get i)
 n0 : 0 ≤ s.ED
 r0 : 0 ≤ s.Reads
structure VG (m : MS) : Prop where
 tn : m.AB.length ≤ maxLen
 rn : m.AF.length ≤ maxLen
 ts : ∀ t ∈ m.AB, t.Seen.length ≤ maxLen
 rs : ∀ r ∈ m.AF, r.Aj.length ≤ maxLen ∧ r.A4.length ≤ maxLen
theorem w_fi (a b : TSt) (h : aS a = aS b) (ha : VG (aS a)) : D_fi.wp (a, b) fun y => y = true := by
 have atn : a.AB.n ≤ maxLen := by have := ha.tn; simpa [aS] using this
 have arn : a.AF.n ≤ maxLen := by have := ha.rn; simpa [aS] using this
 have ats : ∀ t, t < a.AB.n → (a.AB.get t).Seen.n ≤ maxLen := fun t ht => by
  have := ha.ts _ (List.mem_map.2 ⟨_, Sl.C3.2 ⟨t, ht, rfl⟩, rfl⟩)
  simpa [aT] using this
 have ars : ∀ t, t < a.AF.n → (a.AF.get t).Aj.n ≤ maxLen ∧ (a.AF.get t).A4.n ≤ maxLen := fun t ht => by
  have := ha.rs _ (List.mem_map.2 ⟨_, Sl.C3.2 ⟨t, ht, rfl⟩, rfl⟩)
  simpa [K9] using this
 simp only [aS, MS.mk.injEq] at h
 obtain ⟨h1, h2, h3, h4, h5⟩ := h
 obtain ⟨n1, g1⟩ := L4 h1
 obtain ⟨n2, g2⟩ := L4 h2
 refine of_wp ?_
 simp only [tt_fi]
 refine Az (fun e => absurd (ieI.2 (by rw [n1])) (bnI.1 e)) fun _ => Az (fun e => absurd (ieI.2 (by rw [n2])) (bnI.1 e)) fun _ => Az (fun e => absurd (ieI.2 h3) (bnI.1 e)) fun _ =>
  Az (fun e => absurd (ieI.2 h4) (bnI.1 e)) fun _ => Az (fun e => absurd (by rw [h5]; simp) (bnI.1 e)) fun _ => of_wp ?_
 simp only [tt_fi_3]
 refine Fk (fun k => (⟨a, b, (k : Nat)⟩ : X_fi_4)) a.AB.n (fun _ => True) _ (fun D hJ => ?_) (fun D k hk hD => ?_)
 · simp only [tt_fi_4, BC, Nat.lt_irrefl, decide_false, B9]
   refine of_wp ?_
   simp only [tt_fi_8]
   refine Fk (fun k => (⟨a, b, (k : Nat)⟩ : X_fi_9)) a.AF.n (fun _ => True) _ (fun D hJ => ?_) (fun D k hk hD => ?_)
   · simp only [tt_fi_9, BC, Nat.lt_irrefl, decide_false, B9]; rfl
   · have hk2 : k < b.AF.n := n2 ▸ hk
     simp only [tt_fi_9, BC, hk, decide_true, CU, Aw hk, Aw hk2, Ay, Int.toNat_natCast, CH hk arn]
     refine wC (w_f19 _ _ (g2 k hk2) (ars k hk).1 (ars k hk).2) fun (y : Bool) hy => ?_
     subst hy
     exact Az (fun e => absurd rfl (bnI.1 e)) fun _ => hD trivial
 · have hk2 : k < b.AB.n := n1 ▸ hk
   simp only [tt_fi_4, BC, hk, decide_true, CU, Aw hk, Aw hk2, Ay, Int.toNat_natCast, CH hk atn]
   refine wC (w_f3e _ _ (g1 k hk2) (ats k hk)) fun (y : Bool) hy => ?_
   subst hy
   exact Az (fun e => absurd rfl (bnI.1 e)) fun _ => hD trivial
def Nl (rs : Sl TRs) (l : Sl TIn) (t : TTh) : Prop :=
 (t.Phase = 1 → t.AG < (rs.get t.Ring.toNat).A6) ∧ (t.Phase = 2 → t.AG < (rs.get t.Ring.toNat).Aj.get (l.get t.At.toNat).K.toNat)
structure PO (p : TPg) (s : TSt) : Prop where
 tn : s.AB.n = p.AB.n
 rn : s.AF.n = p.AF.n
 nw : s.ED < 9223372036854775808
 ri : ∀ i, i < s.AF.n → Nc (p.AF.get i) (s.AF.get i) ∧ (s.AF.get i).A6 < 2305843009213693952
 ti : ∀ t, t < s.AB.n → E3 (p.AB.get t).L (aT (s.AB.get t)) ∧ Nl s.AF (p.AB.get t) (s.AB.get t)
theorem IU.c {p : TPg} (h : IU p) {t : Nat} (ht : t < p.AB.n) : Pw (p.AB.get t) := ⟨h.ln t ht, h.ins t ht⟩
theorem QA {p : TPg} (hP : EC (aP p)) {t : Nat} (ht : t < p.AB.n) : codeOk (p.AB.get t) := by
 obtain ⟨h1, h2⟩ := (Bd hP).2.2.2.2 t ht
 refine ⟨h1, fun k hk => ?_⟩
 have := E0 (h2 k hk)
 exact ⟨this.1, fun hh => by have := this.2.1 ⟨hh.1, hh.2.1⟩; omega⟩
theorem L7 {p : TPg} (hP : EC (aP p)) {t : Nat} (ht : t < p.AB.n) {x : TTh} (hi : E3 (p.AB.get t).L (aT x)) (hp : x.Phase ≠ 0) :
 (0 ≤ x.At ∧ x.At < (p.AB.get t).n) ∧ (0 ≤ x.Ring ∧ x.Ring < p.AF.n) ∧ (x.Phase = 2 → 0 ≤ ((p.AB.get t).get x.At.toNat).K ∧ ((p.AB.get t).get x.At.toNat).K < (p.AF.get x.Ring.toNat).Aa) := by
 obtain ⟨_, b, c, d, _, _⟩ := hi.p1 hp
 have a0 : 0 ≤ x.At := hi.a0
 have b : x.At < (p.AB.get t).n := by simpa [aT] using b
 change (gI (p.AB.get t).L x.At).Op = 17 + x.Phase at c
 change (gI (p.AB.get t).L x.At).C = x.Ring at d
 rw [Jb _ a0 b] at c d
 have hph := hi.ph
 change 0 ≤ x.Phase ∧ x.Phase ≤ 2 at hph
 have hf := E0 (((Bd hP).2.2.2.2 t ht).2 x.At.toNat (by omega))
 have hr := Be hf.1
 have h18 := hf.2.2.1 (by omega)
 rw [Sl.Bo, d] at h18
 have r0 : 0 ≤ x.Ring := by omega
 refine ⟨⟨a0, b⟩, ⟨r0, h18⟩, fun e => ⟨(hr.2.2.2.2.2.1 (by omega)).1, ?_⟩⟩
 have := hf.2.2.2 (by omega)
 rw [d, G1 _ r0 h18] at this
 exact this
theorem CV {P : Program} {R : Type} {p : Prop} {t : TT P R} {Q : R → Prop} (h : t.wp Q) : (TT.side p t).wp Q := h
theorem FR (r : TRr) : D_f1h.wp r fun y => y = r.AA.tail := Bs rfl
theorem EZ (j : Int) (c : TRc) : D_ft.wp (j, c) fun y => y = true ↔ 0 ≤ j ∧ j < c.AD.n := by
 refine Bs ?_
 simp only [tt_ft]
 exact AK leI (fun h => wN (by simp) (DS ilI ⟨fun k => ⟨h, k⟩, fun k => k.2⟩)) fun h => B1 fun k => h k.1
theorem Gj (j : Int) (r : TRr) (h0 : 0 ≤ j) (h1 : j < r.AA.AD.n) : D_fm.wp (j, r) fun y => y = r.AA.AD.get j.toNat := by
 refine Bs ?_
 simp only [tt_fm]
 refine wC (EZ j r.AA) fun (y : Bool) hy => ?_
 refine AK bnI (fun h => absurd (hy.2 ⟨h0, h1⟩) h) fun _ => of_wp ?_
 simp only [tt_fm_3, Nat.zero_add]
 exact wN (by rw [ibI]; exact ⟨h0, h1⟩) (wN (by simp) (wN (by simp) rfl))
def Pt (rs : Sl (Bx TRr)) (l : Sl TIn) (t : TTh) : Prop :=
 (t.Phase = 1 → t.AG < (rs.get t.Ring.toNat).x.AA.tail) ∧ (t.Phase = 2 → t.AG < (rs.get t.Ring.toNat).x.AA.AD.get (l.get t.At.toNat).K.toNat)
theorem QR (i : Nat) (f : TFa) (hi : i < f.threads.n) (hp : i < f.p.AB.n)
 (hr : (f.threads.get i).Phase ≠ 0 → 0 ≤ (f.threads.get i).Ring ∧ (f.threads.get i).Ring < f.rings.n ∧ (f.rings.get (f.threads.get i).Ring.toNat).nil = false)
 (h2 : (f.threads.get i).Phase = 2 → (0 ≤ (f.threads.get i).At ∧ (f.threads.get i).At < (f.p.AB.get i).n) ∧
   0 ≤ ((f.p.AB.get i).get (f.threads.get i).At.toNat).K ∧ ((f.p.AB.get i).get (f.threads.get i).At.toNat).K < (f.rings.get (f.threads.get i).Ring.toNat).x.AA.AD.n ∧ (f.rings.get (f.threads.get i).Ring.toNat).x.AA.AD.n ≤ maxLen) :
 D_fy.wp ((i : Int), f) fun y => y = true ↔ Pt f.rings (f.p.AB.get i) (f.threads.get i) := by
 refine Bs ?_
 simp only [tt_fy, Int.toNat_natCast, Nat.zero_add]
 refine wN (Aw hi) (wN (by simp) (wN (by simp) ?_))
 generalize ht : f.threads.get i = t at *
 refine AK ieI (fun e => ?_) fun e => ?_
 · obtain ⟨r0, r1, rn⟩ := hr (by omega)
   refine wN (by rw [ibI]; exact ⟨r0, r1⟩) (wN (by simp [rn]) ?_)
   refine wC (FR _) fun (y : Int) hy => ?_
   subst hy
   refine wN (by simp [rn]; omega) (CV (wN (by simp) (DS ilI ⟨fun k => ⟨fun _ => k, fun e2 => by omega⟩, fun k => k.1 e⟩)))
 · refine AK ieI (fun e2 => ?_) fun e2 => Ok ⟨fun h => absurd h e, fun h => absurd h e2⟩
   obtain ⟨r0, r1, rn⟩ := hr (by omega)
   obtain ⟨⟨a0, a1⟩, k0, k1, hm⟩ := h2 e2
   have hm := Fw hm
   refine wN (by rw [ibI]; exact ⟨r0, r1⟩) (wN (by simp [rn]) (wN (Aw hp) (wN (by rw [ibI]; exact ⟨a0, a1⟩) ?_)))
   rw [wrap64 (by omega) (by omega)]
   refine wC (Gj _ _ k0 k1) fun (y : Int) hy => ?_
   subst hy
   exact wN (by simp [rn]; omega) (CV (wN (by simp) (DS ilI ⟨fun k => ⟨fun h => absurd h e, fun _ => k⟩, fun k => k.2 e2⟩)))
theorem J0 {t : TTh} {y : Sl Int} (h : Cw y t.Seen) : aT ⟨t.At, t.Phase, t.Ring, t.Status, t.AG, t.Ao, y⟩ = aT t := by
 simp only [aT, h.L]
theorem SD {xr : Sl (Bx TRr)} {rs : Sl TRs} {l l' : Sl TIn} {t : TTh} (hl : Cw l' l) (h : t.Phase ≠ 0 → aR (xr.get t.Ring.toNat).x = K9 (rs.get t.Ring.toNat))
 (h2 : t.Phase = 2 → (0 ≤ t.At ∧ t.At < l.n) ∧ 0 ≤ (l.get t.At.toNat).K ∧ (l.get t.At.toNat).K < (rs.get t.Ring.toNat).Aj.n) : Pt xr l' t ↔ Nl rs l t := by
 unfold Pt Nl
 refine and_congr (forall_congr' fun e => ?_) (forall_congr' fun e => ?_)
 · have := congrArg MR.A6 (h (by omega))
   change (xr.get t.Ring.toNat).x.AA.tail = (rs.get t.Ring.toNat).A6 at this
   rw [this]
 · have := congrArg MR.Aj (h (by omega))
   change (xr.get t.Ring.toNat).x.AA.AD.L = (rs.get t.Ring.toNat).Aj.L at this
   obtain ⟨hn, hg⟩ := Sl.L6 this
   obtain ⟨⟨a0, a1⟩, k0, k1⟩ := h2 e
   rw [hl.g _ (by omega), hg _ (by omega)]
theorem w_f4 (p : TPg) (s : TSt) (b : Nat) (hb : b * 8 ≤ 140737488351232) (hp : IU p) (hP : EC (aP p)) (hs : okS b s) :
 D_f4.wp (p, s) fun y => (PO p s ∧ y.2 = 0 ∧ y.1.nil = false ∧ UL p b y.1.x ∧ aF y.1.x = aS s) ∨ (¬ PO p s ∧ y.2 = 3 ∧ y.1.nil = true) := by
 refine of_wp ?_
 simp only [tt_f4]
 refine wC (w_f12 p hp b) fun (y : Bx TFa × Int) hy => ?_
 obtain ⟨⟨yn, ⟨yp, yt, yr, ynow, yrd, ye⟩⟩, er⟩ := y
 rcases hy with ⟨_, h0, h1, hF, _⟩ | ⟨hno, _⟩
 rotate_left
 · exact absurd hP hno
 simp only at h0 h1 hF
 subst h0 h1
 refine AK (p := (0 : Int) ≠ 0) (by rw [bnI, ieI]) (fun h => absurd rfl h) fun _ => AK (p := (s.AB.n : Int) ≠ p.AB.n) (by rw [bnI, ieI]) (fun e => .inr ⟨fun k => e (by rw [k.tn]), rfl, rfl⟩) fun o1 =>
  AK (p := (s.AF.n : Int) ≠ p.AF.n) (by rw [bnI, ieI]) (fun e => .inr ⟨fun k => e (by rw [k.rn]), rfl, rfl⟩) fun o2 => AK leI (fun e => .inr ⟨fun k => absurd k.nw (Int.not_lt.2 e), rfl, rfl⟩) fun o3 => wN rfl (of_wp ?_)
 have n1 : s.AB.n = p.AB.n := by have := Classical.byContradiction o1; omega
 have n2 : s.AF.n = p.AF.n := by have := Classical.byContradiction o2; omega
 clear o1 o2
 have rn := hF.rn
 have tn := hF.tn
 change yr.n = p.AF.n at rn
 change yt.n = p.AB.n at tn
 simp only [tt_f4_6]
 refine Di (tt := tt_f4_8) (fun x : X_f4_8 => x.Gi = p ∧ x.Eh = s ∧ x.MV = s.AF ∧ x.O2 = s.AF.n ∧ ∃ k : Nat, x.EJ = k ∧ k ≤ s.AF.n ∧ x.BO.p = yp ∧ x.BO.threads = yt ∧ x.BO.now = s.ED ∧ x.BO.reads = s.Reads ∧ x.BO.ended = s.Bt ∧
  x.BO.rings.n = s.AF.n ∧ ∀ i, i < k → (Nc (p.AF.get i) (s.AF.get i) ∧ (s.AF.get i).A6 < 2305843009213693952) ∧ (x.BO.rings.get i).nil = false ∧ Od (p.AF.get i) (x.BO.rings.get i).x ∧ aR (x.BO.rings.get i).x = K9 (s.AF.get i))
  (fun x => (s.AF.n - x.EJ).toNat) (fun _ y => (PO p s ∧ y.2 = 0 ∧ y.1.nil = false ∧ UL p b y.1.x ∧ aF y.1.x = aS s) ∨ (¬ PO p s ∧ y.2 = 3 ∧ y.1.nil = true)) (fun D x hI hD => ?_)
  ⟨rfl, rfl, rfl, rfl, 0, rfl, Nat.zero_le _, rfl, rfl, rfl, rfl, rfl, by show yr.n = _; omega, fun i hi => by omega⟩
 obtain ⟨e0, e1, e2, e3, k, e4, hk, e5, e6, e7, e8, e9, hn, hg⟩ := hI
 obtain ⟨q2, q3, q57, q58, q59, ⟨mp, mt, mr, mn, md, me⟩⟩ := x
 simp only at e0 e1 e2 e3 e4 e5 e6 e7 e8 e9 hn hg hD
 subst e0 e1 e2 e3 e4 e5 e6 e7 e8 e9
 simp only [tt_f4_8]
 refine AK ilI (fun h => ?_) fun h => ?_
 · have hkm : k < q3.AF.n := by omega
   have hkp : k < q2.AF.n := by omega
   have hkr : k < mr.n := by omega
   simp only [Aw hkm, Aw hkp, Aw hkr, Ay, Int.toNat_natCast, Nat.zero_add]
   refine wC (w_f9 _ _ (rg_of hP hkp) (hs.rs k hkm)) fun (z : Bx TRr × Int) hz => wN rfl (wN (by simp) (wN (by simp) ?_))
   rcases hz with ⟨hL, z2, zn, zw, za⟩ | ⟨hno, z2⟩
   · refine AK (p := z.2 ≠ 0) (by rw [bnI, ieI]) (fun h => absurd z2 h) fun _ => AK leI (fun h => .inr ⟨fun kk => absurd (kk.ri k hkm).2 (Int.not_lt.2 h), rfl, rfl⟩) fun h9 => of_wp ?_
     simp only [tt_f4_13, CH hkm hs.rn]
     refine NH (x' := ⟨q2, q3, q3.AF, q3.AF.n, ((k + 1 : Nat) : Int), ⟨mp, mt, KF mr k z.1, _, _, _⟩⟩) (hD _ ⟨rfl, rfl, rfl, rfl, k + 1, rfl, hkm, rfl, rfl, rfl, rfl, rfl, hn, fun i hi => ?_⟩ (by simp only; omega)) ?_
     · by_cases e : i = k
       · subst e; simp only [Hr]; exact ⟨⟨hL, by omega⟩, zn, zw, za⟩
       · simp only [Jp e]; exact hg i (by omega)
     · refine congrArg (fun g => X_f4_8.mk q2 q3 q3.AF q3.AF.n ((k + 1 : Nat) : Int) ⟨mp, mt, ⟨mr.nil, mr.n, g⟩, _, _, _⟩) (funext fun i => ?_)
       cases Nat.beq i k <;> rfl
   · exact AK (p := z.2 ≠ 0) (by rw [bnI, ieI]) (fun h => .inr ⟨fun kk => hno (kk.ri k hkm).1, rfl, rfl⟩) fun h => absurd (by rw [z2]; decide) h
 · have hkk : k = q3.AF.n := by omega
   subst hkk
   refine of_wp ?_
   simp only [tt_f4_14]
   refine Di (tt := tt_f4_15) (fun x : X_f4_15 => x.Gi = q2 ∧ x.Ei = q3.AB ∧ x.O1 = q3.AB.n ∧ ∃ k : Nat, x.CB = k ∧ k ≤ q3.AB.n ∧ x.BO.p = mp ∧ x.BO.rings = mr ∧ x.BO.now = q3.ED ∧ x.BO.reads = q3.Reads ∧ x.BO.ended = q3.Bt ∧
    x.BO.threads.n = q3.AB.n ∧ ∀ t, t < k → (E3 (q2.AB.get t).L (aT (q3.AB.get t)) ∧ Nl q3.AF (q2.AB.get t) (q3.AB.get t)) ∧ HV b (x.BO.threads.get t) ∧ aT (x.BO.threads.get t) = aT (q3.AB.get t))
    (fun x => (q3.AB.n - x.CB).toNat) (fun _ y => (PO q2 q3 ∧ y.2 = 0 ∧ y.1.nil = false ∧ UL q2 b y.1.x ∧ aF y.1.x = aS q3) ∨ (¬ PO q2 q3 ∧ y.2 = 3 ∧ y.1.nil = true)) (fun D x hI hD => ?_)
    ⟨rfl, rfl, rfl, 0, rfl, Nat.zero_le _, rfl, rfl, rfl, rfl, rfl, by show mt.n = _; omega, fun i hi => by omega⟩
   obtain ⟨e0, e1, e2, k, e4, hk, e5, e6, e7, e8, e9, htn, htg⟩ := hI
   obtain ⟨x2, x89, x90, x91, ⟨xp, xt, xr, xn, xd, xe⟩⟩ := x
   simp only at e0 e1 e2 e4 e5 e6 e7 e8 e9 htn htg hD
   subst e0 e1 e2 e4 e5 e6 e7 e8 e9
   simp only [tt_f4_15]
   refine AK ilI (fun h => ?_) fun h => ?_
   · have hkm : k < q3.AB.n := by omega
     have hkp : k < x2.AB.n := by omega
     have hkt : k < xt.n := by omega
     simp only [Aw hkm, Aw hkp, Aw hkt, Ay, Int.toNat_natCast, Nat.zero_add]
     have ht := hs.ts k hkm
     refine wC (Gl _ ht.sz (by have := ht.sb; omega)) fun (z : Sl Int) hz => wN rfl (wN (by simp) (wN (by simp) (wN rfl ?_)))
     refine wC (w_fo (x2.AB.get k) ⟨(q3.AB.get k).At, (q3.AB.get k).Phase, (q3.AB.get k).Ring, (q3.AB.get k).Status, (q3.AB.get k).AG, (q3.AB.get k).Ao, z⟩ (hp.c hkp) ht.k0) fun (y : Bool) hy => ?_
     rw [J0 hz.1] at hy
     refine AK bnI (fun h => .inr ⟨fun kk => h (hy.2 ⟨QA hP hkp, (kk.ti k hkm).1⟩), rfl, rfl⟩) fun h => ?_
     have hT := (hy.1 (Classical.byContradiction h)).2
     have hw := fun q => L7 hP hkp hT q
     have heq : ∀ (P : Sl TTh → Prop), P (KF xt k ⟨(q3.AB.get k).At, (q3.AB.get k).Phase, (q3.AB.get k).Ring, (q3.AB.get k).Status, (q3.AB.get k).AG, (q3.AB.get k).Ao, z⟩) →
      P ⟨xt.nil, xt.n, fun i => (TTh.mk (cond (Nat.beq i k) (q3.AB.get k).At (xt.get i).At) (cond (Nat.beq i k) (q3.AB.get k).Phase (xt.get i).Phase) (cond (Nat.beq i k) (q3.AB.get k).Ring (xt.get i).Ring) (cond (Nat.beq i k) (q3.AB.get k).Status (xt.get i).Status) (cond (Nat.beq i k) (q3.AB.get k).AG (xt.get i).AG) (fun j => cond (Nat.beq i k) ((q3.AB.get k).Ao j) ((xt.get i).Ao j)) (Sl.mk (cond (Nat.beq i k) z.nil (xt.get i).Seen.nil) (cond (Nat.beq i k) z.n (xt.get i).Seen.n) (fun j => cond (Nat.beq i k) (z.get j) ((xt.get i).Seen.get j))))⟩ := by
      intro P hh
      refine (congrArg (fun g => P ⟨xt.nil, xt.n, g⟩) (funext fun i => ?_)).mp hh
      cases Nat.beq i k <;> rfl
     refine heq (fun T => (TT.call con_fy ((k : Int), (⟨xp, T, xr, q3.ED, q3.Reads, q3.Bt⟩ : TFa)) _ : TT Tryz.prog R_f4).wp _) ?_
     have hgt : (KF xt k (⟨(q3.AB.get k).At, (q3.AB.get k).Phase, (q3.AB.get k).Ring, (q3.AB.get k).Status, (q3.AB.get k).AG, (q3.AB.get k).Ao, z⟩ : TTh)).get k = _ := Hr
     have hcp : Gd xp x2 := hF.cp
     have hck := (hcp.t k hkp).1
     have hR : (q3.AB.get k).Phase ≠ 0 → (0 ≤ (q3.AB.get k).Ring ∧ (q3.AB.get k).Ring < xr.n) ∧ (xr.get (q3.AB.get k).Ring.toNat).nil = false ∧ aR (xr.get (q3.AB.get k).Ring.toNat).x = K9 (q3.AF.get (q3.AB.get k).Ring.toNat) := by
      intro e
      obtain ⟨_, ⟨r0, r1⟩, _⟩ := hw e
      have := hg (q3.AB.get k).Ring.toNat (by omega)
      exact ⟨⟨r0, by omega⟩, this.2.1, this.2.2.2⟩
     have hK : (q3.AB.get k).Phase = 2 → (0 ≤ (q3.AB.get k).At ∧ (q3.AB.get k).At < (x2.AB.get k).n) ∧ 0 ≤ ((x2.AB.get k).get (q3.AB.get k).At.toNat).K ∧ ((x2.AB.get k).get (q3.AB.get k).At.toNat).K < (q3.AF.get (q3.AB.get k).Ring.toNat).Aj.n := by
      intro e
      obtain ⟨ha, ⟨r0, r1⟩, hk2⟩ := hw (by omega)
      have := (hg (q3.AB.get k).Ring.toNat (by omega)).1.1.rd
      have := hk2 e
      exact ⟨ha, this.1, by omega⟩
     have hpend := QR k (⟨xp, KF xt k ⟨(q3.AB.get k).At, (q3.AB.get k).Phase, (q3.AB.get k).Ring, (q3.AB.get k).Status, (q3.AB.get k).AG, (q3.AB.get k).Ao, z⟩, xr, q3.ED, q3.Reads, q3.Bt⟩ : TFa) hkt (by show k < xp.AB.n; rw [hcp.n]; exact hkp)
      (by simp only [hgt]; exact fun e => ⟨(hR e).1.1, (hR e).1.2, (hR e).2.1⟩)
      (by
        simp only [hgt]
        intro e
        obtain ⟨⟨a0, a1⟩, k0, k1⟩ := hK e
        have hh := congrArg MR.Aj (hR (by omega)).2.2
        change (xr.get (q3.AB.get k).Ring.toNat).x.AA.AD.L = (q3.AF.get (q3.AB.get k).Ring.toNat).Aj.L at hh
        have hh := (Sl.L6 hh).1
        obtain ⟨_, ⟨r0, r1⟩, _⟩ := hw (by omega)
        have := (hs.rs (q3.AB.get k).Ring.toNat (by omega)).hn
        rw [hck.g _ (by omega), hh, hck.n]
        exact ⟨⟨a0, a1⟩, k0, k1, this⟩)
     simp only [hgt] at hpend
     refine wC hpend fun (y : Bool) hy => ?_
     have hpi : Pt xr (xp.AB.get k) ⟨(q3.AB.get k).At, (q3.AB.get k).Phase, (q3.AB.get k).Ring, (q3.AB.get k).Status, (q3.AB.get k).AG, (q3.AB.get k).Ao, z⟩ ↔ Nl q3.AF (x2.AB.get k) (q3.AB.get k) :=
      SD (t := q3.AB.get k) hck (fun e => (hR e).2.2) hK
     have hy := Iff.trans hy hpi
     refine AK bnI (fun h => .inr ⟨fun kk => h (hy.2 (kk.ti k hkm).2), rfl, rfl⟩) fun hyy => of_wp ?_
     have hpd := hy.1 (Classical.byContradiction hyy)
     simp only [tt_f4_21, CH hkm hs.tn]
     refine heq (fun T => D.wp (⟨x2, q3.AB, q3.AB.n, ((k + 1 : Nat) : Int), ⟨xp, T, xr, q3.ED, q3.Reads, q3.Bt⟩⟩ : X_f4_15) _) ?_
     refine hD _ ⟨rfl, rfl, rfl, k + 1, rfl, hkm, rfl, rfl, rfl, rfl, rfl, htn, fun i hi => ?_⟩ (by simp only; omega)
     by_cases e : i = k
     · subst e; simp only [Hr]
       exact ⟨⟨hT, hpd⟩, ⟨ht.k0, ht.k1, ht.rg, hz.2, by have := ht.sb; have := hz.1.n; show z.n ≤ b; omega⟩, J0 hz.1⟩
     · simp only [Jp e]; exact htg i (by omega)
   · have hkk : k = q3.AB.n := by omega
     subst hkk
     refine .inl ⟨⟨n1, n2, by omega, fun i hi => (hg i hi).1, fun t ht => (htg t ht).1⟩, rfl, rfl, ⟨hF.cp, by show xt.n = _; omega, fun t ht => (htg t (htn ▸ ht)).2.1, by show xr.n = _; omega, fun i hi => (hg i (hn ▸ hi)).2.imp_right fun h => h.1⟩, ?_⟩
     unfold aF aS
     simp only [MS.mk.injEq, and_true]
     exact ⟨EW htn fun i hi => (htg i hi).2.2, EW hn fun i hi => (hg i hi).2.2.2⟩
theorem NM (x : TSs) (h : 0 < x.l.n) (hn : x.l.n * 24 ≤ 140737488351232) : D_f1p.wp x fun y => Cw y x.l ∧ Cs y := by
 refine Bs ?_
 simp only [tt_f1p]
 refine wC (JT ⟨x.l.n, x.l.get⟩ h hn) fun (y : Sl TSo) hy => wN (by simp) ⟨⟨hy.1.n, hy.1.g⟩, hy.2⟩
theorem GF (c : TRg) (r : TRr) (hc : A7 c = true) (h : Od c r) : D_f1d.wp r fun y => K9 y = aR r ∧ Cs y.Aj ∧ Cs y.A4 := by
 have hf := E9 hc
 have hn := h.hn
 have ln := h.ln
 refine Bs ?_
 simp only [tt_f1d]
 refine wN (by simp [h.sn]) ?_
 refine wC (Hl ⟨r.AA.AD.n, r.AA.AD.get⟩ (by show 0 < r.AA.AD.n; omega) (by show r.AA.AD.n * 8 ≤ _; omega)) fun (y : Sl Int) hy => ?_
 refine wC (NM r.s.x (by omega) (by omega)) fun (z : Sl TSo) hz => wN (by simp [h.sn]) (CV (wN (by simp) ?_))
 have e : y.L = r.AA.AD.L := hy.1.L
 refine ⟨?_, hy.2, hz.2⟩
 show (⟨r.AA.tail, y.L, r.closed, z.L⟩ : MR) = _
 rw [e, hz.1.L]; rfl
structure OS (b : Nat) (s : TSt) : Prop where
 ts : ∀ t, t < s.AB.n → HV b (s.AB.get t)
 rs : ∀ i, i < s.AF.n → Cs (s.AF.get i).Aj ∧ Cs (s.AF.get i).A4
theorem J6 (p : TPg) (b : Nat) (f : TFa) (hb : b * 8 ≤ 140737488351232) (hP : EC (aP p)) (h : UL p b f) : D_f1.wp f fun y => aS y = aF f ∧ OS b y := by
 obtain ⟨h1, h8, hr8, _, hl⟩ := Bd hP
 have htn := h.tn
 have hrn := h.rn
 refine Bs ?_
 simp only [tt_f1]
 refine wC (FQ ⟨f.threads.n, f.threads.get⟩ (by show 0 < f.threads.n; omega) (by show f.threads.n * 128 ≤ _; omega)) fun (y : Sl TTh) hy => wN (by simp) (wN (by simp) ?_)
 have yn : y.n = f.threads.n := hy.1.n
 have yg : ∀ i, i < f.threads.n → y.get i = f.threads.get i := hy.1.g
 refine Di (tt := tt_f1_5) (fun x : X_f1_5 => x.MX = f.threads.n ∧ x.Ad = f ∧ ∃ k : Nat, x.ER = k ∧ k ≤ f.threads.n ∧ x.CO.AF = ⟨true, 0, fun _ => ⟨0, ⟨true, 0, fun _ => 0⟩, false, ⟨true, 0, fun _ => ⟨0, 0, 0⟩⟩⟩⟩ ∧ x.CO.ED = f.now ∧ x.CO.Reads = f.reads ∧ x.CO.Bt = f.ended ∧
  x.CO.AB.n = f.threads.n ∧ ∀ t, t < f.threads.n → aT (x.CO.AB.get t) = aT (f.threads.get t) ∧ Cs (x.CO.AB.get t).Seen ∧ (x.CO.AB.get t).Seen.n ≤ b)
  (fun x => (f.threads.n - x.ER).toNat) (fun _ y => aS y.1 = aF f ∧ OS b y.1) (fun D x hI hD => ?_)
  ⟨by rw [← yn], rfl, 0, rfl, Nat.zero_le _, rfl, rfl, rfl, rfl, yn, fun t ht => by show aT (y.get t) = _ ∧ Cs (y.get t).Seen ∧ (y.get t).Seen.n ≤ b; rw [yg t ht]; exact ⟨rfl, (h.tw t ht).sz, (h.tw t ht).sb⟩⟩
 obtain ⟨e0, e1, k, e4, hk, e5, e6, e7, e8, hn, hg⟩ := hI
 obtain ⟨q29, q30, o0, ⟨mt, mr, mn, md, me⟩⟩ := x
 simp only at e0 e1 e4 e5 e6 e7 e8 hn hg hD
 subst e0 e1 e4 e5 e6 e7 e8
 simp only [tt_f1_5]
 refine AK ilI (fun hlt => ?_) fun hlt => ?_
 · have hkm : k < mt.n := by omega
   have hkf : k < o0.threads.n := by omega
   simp only [Aw hkm, Ay, Int.toNat_natCast, Nat.zero_add]
   obtain ⟨g1, g2, g3⟩ := hg k hkf
   refine wN (by simp) ?_
   refine wC (Gl _ g2 (by omega)) fun (z : Sl Int) hz => wN rfl (wN (by simp) (wN (by simp) ?_))
   have e2 : IntKind.i64.wrap ((k : Int) + 1) = ((k + 1 : Nat) : Int) := by rw [wrap64] <;> omega
   rw [e2]
   refine NH (x' := ⟨_, ((k + 1 : Nat) : Int), o0, ⟨KF mt k ⟨(mt.get k).At, (mt.get k).Phase, (mt.get k).Ring, (mt.get k).Status, (mt.get k).AG, (mt.get k).Ao, z⟩, _, _, _, _⟩⟩) (hD _ ⟨rfl, rfl, k + 1, rfl, by omega, rfl, rfl, rfl, rfl, hn, fun i hi => ?_⟩ (by simp only; omega)) ?_
   · by_cases e : i = k
     · subst e; simp only [Hr]; exact ⟨(J0 hz.1).trans g1, hz.2, by rw [hz.1.n]; exact g3⟩
     · simp only [Jp e]; exact hg i hi
   · refine congrArg (fun g => X_f1_5.mk _ ((k + 1 : Nat) : Int) o0 ⟨⟨mt.nil, mt.n, g⟩, _, _, _, _⟩) (funext fun i => ?_)
     cases Nat.beq i k <;> rfl
 · refine CV (of_wp ?_)
   simp only [tt_f1_9]
   refine Di (tt := tt_f1_10) (fun x : X_f1_10 => x.TU = o0.rings.n ∧ x.Ad = o0 ∧ ∃ k : Nat, x.C1 = k ∧ k ≤ o0.rings.n ∧ x.CO.AB = mt ∧ x.CO.ED = o0.now ∧ x.CO.Reads = o0.reads ∧ x.CO.Bt = o0.ended ∧
    x.CO.AF.n = k ∧ ∀ i, i < k → K9 (x.CO.AF.get i) = aR (o0.rings.get i).x ∧ Cs (x.CO.AF.get i).Aj ∧ Cs (x.CO.AF.get i).A4)
    (fun x => (o0.rings.n - x.C1).toNat) (fun _ y => aS y.1 = aF o0 ∧ OS b y.1) (fun D x hI hD => ?_) ⟨rfl, rfl, 0, rfl, Nat.zero_le _, rfl, rfl, rfl, rfl, rfl, fun t ht => by omega⟩
   obtain ⟨e0, e1, k, e4, hk, e5, e6, e7, e8, hrn2, hrg⟩ := hI
   obtain ⟨q29, q30, o0, ⟨xt, xr, xn, xd, xe⟩⟩ := x
   simp only at e0 e1 e4 e5 e6 e7 e8 hrn2 hrg hD
   subst e0 e1 e4 e5 e6 e7 e8 hrn2
   simp only [tt_f1_10]
   refine AK ilI (fun hlt => ?_) fun hlt => ?_
   · have hkr : xr.n < o0.rings.n := by omega
     obtain ⟨hnil, hw⟩ := h.rw _ hkr
     simp only [Aw hkr, Ay, Int.toNat_natCast, Nat.zero_add]
     refine wN (by simp [hnil]) ?_
     refine wC (GF _ _ (rg_of hP (by omega)) hw) fun (z : TRs) hz => wN (by simp [room]; omega) (wN (by simp [hnil]; omega) (CV ?_))
     have e2 : IntKind.i64.wrap ((xr.n : Int) + 1) = ((xr.n + 1 : Nat) : Int) := by rw [wrap64] <;> omega
     rw [e2]
     refine NH (x' := ⟨_, ((xr.n + 1 : Nat) : Int), o0, ⟨xt, snoc xr z, _, _, _⟩⟩) (hD _ ⟨rfl, rfl, xr.n + 1, rfl, by omega, rfl, rfl, rfl, rfl, rfl, fun i hi => ?_⟩ (by simp only; omega)) ?_
     · by_cases e : i = xr.n
       · subst e; simp only [Jo]; exact hz
       · have : i < xr.n := by omega
         simp only [Jn this]; exact hrg i this
     · refine congrArg (fun g => X_f1_10.mk _ ((xr.n + 1 : Nat) : Int) o0 ⟨xt, ⟨false, xr.n + 1, g⟩, _, _, _⟩) (funext fun i => ?_)
       cases Nat.blt i xr.n <;> rfl
   · have hkk : xr.n = o0.rings.n := by omega
     refine wN (by simp) ?_
     have htn2 : xt.n = o0.threads.n := by assumption
     refine ⟨?_, fun t ht => ?_, fun i hi => (hrg i hi).2⟩
     · show aS ⟨xt, xr, o0.now, o0.reads, o0.ended⟩ = aF o0
       unfold aF aS
       simp only [MS.mk.injEq, and_true]
       exact ⟨EW htn2 fun i hi => (hg i hi).1, EW hkk fun i hi => (hrg i (hkk ▸ hi)).1⟩
     · change t < xt.n at ht
       obtain ⟨g1, g2, g3⟩ := hg t (htn2 ▸ ht)
       have hw := h.tw t (htn2 ▸ ht)
       have k1 := congrArg MT.AG g1
       have k2 := congrArg MT.Ao g1
       change (xt.get t).AG = (o0.threads.get t).AG at k1
       change (xt.get t).Ao = (o0.threads.get t).Ao at k2
       exact ⟨by show 0 ≤ (xt.get t).AG; rw [k1]; exact hw.k0, by show (xt.get t).AG < _; rw [k1]; exact hw.k1, by show ∀ j, 0 ≤ (xt.get t).Ao j ∧ (xt.get t).Ao j < _; rw [k2]; exact hw.rg, g2, g3⟩
theorem w_f36 (x : Int) : D_f36.wp x fun y => y = true ↔ 18 ≤ x ∧ x ≤ 25 := by
 refine of_wp ?_
 simp only [tt_f36, TT.wp, leI, ilI, ieI, bnI, ibI, Bool.and_eq_true, Bool.false_eq_true, true_iff, false_iff]
 omega
theorem E6 {a : Int} (h : CD a) : (BitVec.ofInt (IntKind.bits .u64) a).toNat = a.toNat := by
 obtain ⟨h0, h1⟩ := h
 rw [BitVec.toNat_ofInt]
 show (a % ((2 ^ 64 : Nat) : Int)).toNat = a.toNat
 rw [Int.emod_eq_of_lt h0 (by exact h1)]
theorem C6 {a : Int} (h : CD a) : a.toNat < 2 ^ 64 := by
 obtain ⟨h0, h1⟩ := h
 have : (2 : Nat) ^ 64 = 18446744073709551616 := by decide
 omega
theorem J1 {n : Nat} (h : n < 2 ^ 64) : IntKind.u64.wrap (n : Int) = n := by
 have : (2 : Nat) ^ 64 = 18446744073709551616 := by decide
 exact BR (by omega) (by omega)
theorem IK {a b : Int} (ha : CD a) (hb : CD b) : Vm.bits .and IntKind.u64 a b = ((a.toNat &&& b.toNat : Nat) : Int) := by
 simp only [Vm.bits, BitVec.toNat_and, E6 ha, E6 hb]
 exact J1 (Nat.and_lt_two_pow _ (C6 hb))
theorem My {a b : Int} (ha : CD a) (hb : CD b) : Vm.bits .or IntKind.u64 a b = ((a.toNat ||| b.toNat : Nat) : Int) := by
 simp only [Vm.bits, BitVec.toNat_or, E6 ha, E6 hb]
 exact J1 (Nat.or_lt_two_pow (C6 ha) (C6 hb))
theorem Mx {a b : Int} (ha : CD a) (hb : CD b) : Vm.bits .xor IntKind.u64 a b = ((a.toNat ^^^ b.toNat : Nat) : Int) := by
 simp only [Vm.bits, BitVec.toNat_xor, E6 ha, E6 hb]
 exact J1 (Nat.xor_lt_two_pow (C6 ha) (C6 hb))
theorem UK {b : Int} (hb : CD b) : Vm.bits .and IntKind.u64 b 63 = b % 64 := by
 rw [IK hb (by unfold CD; decide)]
 have : b.toNat &&& 63 = b.toNat % 64 := Nat.and_two_pow_sub_one_eq_mod b.toNat 6
 show ((b.toNat &&& 63 : Nat) : Int) = _
 rw [this]
 have := hb.1
 omega
theorem w_f3f (b : Bool) : D_f3f.wp b fun y => y = if b = true then 1 else 0 := by
 refine of_wp ?_
 simp only [tt_f3f]
 exact Az (fun h => by rw [if_pos h]; rfl) fun h => by rw [if_neg h]; rfl
theorem w_f2s (a b : Int) (ha : CD a) (hb : CD b) : D_f2s.wp (a, b) fun y => y = if b = 0 then 0 else a / b := by
 refine of_wp ?_
 simp only [tt_f2s]
 refine AK ieI (fun h => by rw [if_pos h]; rfl) fun h => wN (by simpa [Ae] using h) ?_
 rw [if_neg h]
 show IntKind.u64.wrap (Int.tdiv a b) = _
 rw [Int.tdiv_eq_ediv_of_nonneg ha.1]
 have h2 : a / b ≤ a := Int.ediv_le_self _ ha.1
 have h3 : 0 ≤ a / b := Int.ediv_nonneg ha.1 hb.1
 have := ha.2
 exact BR h3 (by omega)
theorem w_f3b (a b : Int) (ha : CD a) : D_f3b.wp (a, b) fun y => y = if b = 0 then 0 else a % b := by
 refine of_wp ?_
 simp only [tt_f3b]
 refine AK ieI (fun h => by rw [if_pos h]; rfl) fun h => wN (by simpa [Ae] using h) ?_
 rw [if_neg h]
 exact Int.tmod_eq_emod_of_nonneg ha.1
theorem Uf (a b : Int) : Nz 11 a b = IntKind.u64.wrap (a * 2 ^ (b % 64).toNat) := rfl
theorem Ue (a b : Int) : Nz 12 a b = a / 2 ^ (b % 64).toNat := rfl
theorem w_f3h (op a b : Int) (ha : CD a) (hb : CD b) (h3 : 3 ≤ op) (h14 : op ≤ 14) : D_f3h.wp (op, (a, b)) fun y => y.1 = Nz op a b := by
 refine of_wp ?_
 simp only [tt_f3h]
 have hm : (b % 64).toNat ≤ 63 := by omega
 have hmin : min (b % 64).toNat (IntKind.bits .u64) = (b % 64).toNat := Nat.min_eq_left (by show _ ≤ 64; omega)
 refine AK ieI (fun h => ?_) fun n3 => AK ieI (fun h => ?_) fun n4 => AK ieI (fun h => ?_) fun n5 => AK ieI (fun h => ?_) fun n6 => AK ieI (fun h => ?_) fun n7 => AK ieI (fun h => ?_) fun n8 =>
  AK ieI (fun h => ?_) fun n9 => AK ieI (fun h => ?_) fun n10 => AK ieI (fun h => ?_) fun n11 => AK ieI (fun h => ?_) fun n12 => AK ieI (fun h => ?_) fun n13 => AK ieI (fun h => ?_) fun n14 => by omega
 · subst h; rfl
 · subst h; rfl
 · subst h; rfl
 · subst h
   exact wC (w_f2s a b ha hb) fun (y : Int) hy => hy
 · subst h
   exact wC (w_f3b a b ha) fun (y : Int) hy => hy
 · subst h
   exact IK ha hb
 · subst h
   exact My ha hb
 · subst h
   exact Mx ha hb
 · subst h
   show shl IntKind.u64 a (Vm.bits .and IntKind.u64 b 63) = Nz 11 a b
   rw [Uf, UK hb, shl, hmin]
 · subst h
   show shr IntKind.u64 a (Vm.bits .and IntKind.u64 b 63) = Nz 12 a b
   rw [Ue, UK hb, shr, hmin, Int.fdiv_eq_ediv_of_nonneg]
   exact Int.le_of_lt (Int.pow_pos (by decide))
 · subst h
   refine wC (w_f3f (B8 a b)) fun (y : Int) hy => ?_
   subst hy
   show (if B8 a b = true then (1 : Int) else 0) = if a < b then 1 else 0
   simp only [ilI]
 · subst h
   refine wC (w_f3f (Ae a b)) fun (y : Int) hy => ?_
   subst hy
   show (if Ae a b = true then (1 : Int) else 0) = if a = b then 1 else 0
   simp only [ieI]
theorem Ny {op a b : Int} (ha : CD a) (hb : CD b) : CD (Nz op a b) := by
 have hd : CD (if b = 0 then 0 else a / b) := by
  split
  · exact DN
  · exact ⟨Int.ediv_nonneg ha.1 hb.1, by have := Int.ediv_le_self b ha.1; have := ha.2; omega⟩
 have hr : CD (if b = 0 then 0 else a % b) := by
  split
  · exact DN
  · rename_i h
    have h1 : 0 < b := by have := hb.1; omega
    exact ⟨Int.emod_nonneg _ h, by have := Int.emod_lt_of_pos a h1; have := hb.2; omega⟩
 have hn : ∀ {n : Nat}, n < 2 ^ 64 → CD (n : Int) := fun h => by
  have : (2 : Nat) ^ 64 = 18446744073709551616 := by decide
  exact ⟨Int.natCast_nonneg _, by omega⟩
 have it : ∀ {c : Prop} [Decidable c] {x y : Int}, CD x → CD y → CD (if c then x else y) := fun h k => by split <;> assumption
 have u1 : CD 1 := by unfold CD; decide
 have hs : CD (a / 2 ^ (b % 64).toNat) := ⟨Int.ediv_nonneg ha.1 (Int.le_of_lt (Int.pow_pos (by decide))), by have := Int.ediv_le_self (2 ^ (b % 64).toNat) ha.1; have := ha.2; omega⟩
 unfold Nz
 exact it (G9 _) (it (G9 _) (it (G9 _) (it hd (it hr (it (hn (Nat.and_lt_two_pow _ (C6 hb))) (it (hn (Nat.or_lt_two_pow (C6 ha) (C6 hb))) (it (hn (Nat.xor_lt_two_pow (C6 ha) (C6 hb))) (it (G9 _) (it hs (it (it u1 DN) (it u1 DN)))))))))))
theorem BF {P : Program} {R Z : Type} {g : R → Z} {b : Bool} {p : Prop} [Decidable p] {t e : TT P R} {u v : Z} (hb : b = true ↔ p) (h1 : p → t.wp fun y => g y = u) (h2 : ¬ p → e.wp fun y => g y = v) : (TT.ite b t e).wp fun y => g y = if p then u else v :=
 AK hb (fun h => by rw [if_pos h]; exact h1 h) fun h => by rw [if_neg h]; exact h2 h
theorem Cl {a b : Bool} (h : a = true ↔ b = true) : a = b := Bool.eq_iff_iff.2 h
theorem w_f2c (k : Int) : D_f2c.wp k fun y => y = BK k := by
 refine AS.wp.mono (Q := fun y : Bool => y = true ↔ (1 ≤ k ∧ k ≤ 4 ∨ k = 13)) (of_wp ?_) fun y hy => Cl (hy.trans BE.symm)
 simp only [tt_f2c, TT.wp, leI, ieI, true_iff]
 omega
theorem w_f2m (k : Int) : D_f2m.wp k fun y => y = DE k := by
 refine AS.wp.mono (Q := fun y : Bool => y = true ↔ (1 ≤ k ∧ k ≤ 7 ∨ k = 13)) (of_wp ?_) fun y hy => Cl (hy.trans CT.symm)
 simp only [tt_f2m]
 refine wC (w_f2c k) fun (y : Bool) hy => ?_
 subst hy
 simp only [TT.wp, leI, BE, true_iff, Bool.false_eq_true, false_iff]
 omega
theorem w_f2t (k : Int) : D_f2t.wp k fun y => y = ET k := by
 refine AS.wp.mono (Q := fun y : Bool => y = true ↔ (8 ≤ k ∧ k ≤ 10 ∨ k = 12)) (of_wp ?_) fun y hy => Cl (hy.trans (by simp only [ET, decide_eq_true_eq]))
 simp only [tt_f2t, TT.wp, leI, ieI, true_iff]
 omega
theorem w_f21 (k : Int) : D_f21.wp k fun y => y = ⟨#[]⟩ ↔ ¬ (1 ≤ k ∧ k ≤ 15) := by
 refine of_wp ?_
 simp only [tt_f21]
 refine AK ilI (fun h => ⟨fun _ => by omega, fun _ => rfl⟩) fun h1 => AK ilI (fun h => ⟨fun _ => by omega, fun _ => rfl⟩) fun h2 => of_wp ?_
 simp only [tt_f21_3]
 have hn : D_f35.wp PUnit.unit fun y => y.n = 15 ∧ ∀ i, i < 15 → y.get i ≠ ⟨#[]⟩ := by
  refine of_wp ?_
  simp only [tt_f35]
  refine ⟨rfl, fun i hi => ?_⟩
  rcases (by omega : i = 0 ∨ i = 1 ∨ i = 2 ∨ i = 3 ∨ i = 4 ∨ i = 5 ∨ i = 6 ∨ i = 7 ∨ i = 8 ∨ i = 9 ∨ i = 10 ∨ i = 11 ∨ i = 12 ∨ i = 13 ∨ i = 14) with e | e | e | e | e | e | e | e | e | e | e | e | e | e | e <;> subst e <;> exact fun h => by cases h
 refine wC hn fun (y : Sl ByteArray) hy => ?_
 have hw : IntKind.i64.wrap (k - 1) = k - 1 := wrap64 (by omega) (by omega)
 rw [hw]
 exact wN (by rw [ibI, hy.1]; omega) ⟨fun h => absurd h (hy.2 _ (by omega)), fun h => absurd ⟨by omega, by omega⟩ h⟩
def JN (e : TEv) : TEv := ⟨e.Thread, e.Kind, if DE e.Kind = true then e.Ring else 0, if BK e.Kind = true then e.AG else 0, if ET e.Kind = true then e.Value else 0⟩
theorem w_fv (e : TEv) : D_fv.wp e fun y => y = JN e := by
 refine of_wp ?_
 simp only [tt_fv]
 refine wC (w_f2m e.Kind) fun (y : Bool) hy => ?_
 subst hy
 have h5 : ∀ r t z, D_fv_5.wp (⟨⟨e.Thread, e.Kind, r, t, e.Value⟩, z⟩ : X_fv_5) fun y => y = ⟨e.Thread, e.Kind, r, t, if ET e.Kind = true then e.Value else 0⟩ := fun r t z => by
  refine of_wp ?_
  simp only [tt_fv_5]
  refine wC (w_f2t e.Kind) fun (y : Bool) hy => ?_
  subst hy
  exact AK bnI (fun h => by rw [if_neg h]; rfl) fun h => by rw [if_pos (Classical.byContradiction h)]; rfl
 have h3 : ∀ r z, D_fv_3.wp (⟨⟨e.Thread, e.Kind, r, e.AG, e.Value⟩, z⟩ : X_fv_3) fun y => y = ⟨e.Thread, e.Kind, r, if BK e.Kind = true then e.AG else 0, if ET e.Kind = true then e.Value else 0⟩ := fun r z => by
  refine of_wp ?_
  simp only [tt_fv_3]
  refine wC (w_f2c e.Kind) fun (y : Bool) hy => ?_
  subst hy
  exact AK bnI (fun h => by rw [if_neg h]; exact h5 _ _ _) fun h => by rw [if_pos (Classical.byContradiction h)]; exact h5 _ _ _
 unfold JN
 exact AK bnI (fun h => by rw [if_neg h]; exact h3 _ _) fun h => by rw [if_pos (Classical.byContradiction h)]; exact h3 _ _
theorem Gx {e : TEv} : Bu e = true ↔ (1 ≤ e.Kind ∧ e.Kind ≤ 15) ∧ (0 ≤ e.Thread ∧ e.Thread ≤ 7) ∧ (0 ≤ e.Ring ∧ e.Ring ≤ 7) ∧ e.AG < 4611686018427387904 ∧
 (DE e.Kind = true ∨ e.Ring = 0) ∧ (BK e.Kind = true ∨ e.AG = 0) ∧ (ET e.Kind = true ∨ e.Value = 0) := by
 simp only [Bu, decide_eq_true_eq]
theorem S1 {e : TEv} : ((Ae e.Thread (JN e).Thread) && ((Ae e.Kind (JN e).Kind) && ((Ae e.Ring (JN e).Ring) && ((Ae e.AG (JN e).AG) && ((Ae e.Value (JN e).Value) && true))))) = true ↔
 (DE e.Kind = true ∨ e.Ring = 0) ∧ (BK e.Kind = true ∨ e.AG = 0) ∧ (ET e.Kind = true ∨ e.Value = 0) := by
 simp only [JN, Bool.and_eq_true, ieI, true_and, and_true]
 cases DE e.Kind <;> cases BK e.Kind <;> cases ET e.Kind <;> simp
theorem w_f2n (e : TEv) : D_f2n.wp e fun y => y = Bu e := by
 refine AS.wp.mono (Q := fun y : Bool => y = true ↔ Bu e = true) (of_wp ?_) fun y hy => Cl hy
 simp only [tt_f2n]
 refine wC (w_f21 e.Kind) fun (y : ByteArray) hy => ?_
 refine AK (p := 1 ≤ e.Kind ∧ e.Kind ≤ 15) (by rw [bnI, Pk]; exact (not_congr hy).trans Decidable.not_not) (fun h1 => ?_) fun h1 => B1 fun k => h1 (Gx.1 k).1
 refine wC (w_fv e) fun (y : TEv) hy => ?_
 subst hy
 refine AK S1 (fun h2 => AK leI (fun h3 => AK ilI (fun h4 => AK leI (fun h5 => AK ilI (fun h6 => DS ilI ?_) fun h => ?_) fun h => ?_) fun h => ?_) fun h => ?_) fun h => ?_
 · rw [Gx]; exact ⟨fun h => ⟨h1, by omega, by omega, h, h2⟩, fun h => h.2.2.2.1⟩
 all_goals refine B1 fun k => ?_
 all_goals have k := Gx.1 k
 · omega
 · omega
 · omega
 · omega
 · exact h k.2.2.2.2
def aA (a : TAk) : MA := ⟨a.Kind, a.Ring, a.Mode, a.Reader, a.AG, a.Value⟩
theorem w_f2b (k : Int) : D_f2b.wp k fun y => y = Es k := by
 refine of_wp ?_
 simp only [tt_f2b, Es]
 exact BF (g := id) ieI (fun _ => rfl) fun _ => BF (g := id) ieI (fun _ => rfl) fun _ => BF (g := id) ieI (fun _ => rfl) fun _ => BF (g := id) ieI (fun _ => rfl) fun _ => BF (g := id) ieI (fun _ => rfl) fun _ =>
  BF (g := id) ieI (fun _ => rfl) fun _ => BF (g := id) ieI (fun _ => rfl) fun _ => BF (g := id) ieI (fun _ => rfl) fun _ => BF (g := id) ieI (fun _ => rfl) fun _ => BF (g := id) ieI (fun _ => rfl) fun _ => BF (g := id) ieI (fun _ => rfl) fun _ => rfl
theorem w_fh (a : TAk) (e : TEv) : D_fh.wp (a, e) fun y => y = Cp (aA a) e := by
 refine of_wp ?_
 simp only [tt_fh]
 refine wC (w_f2m e.Kind) fun (y : Bool) hy => ?_
 subst hy
 have h4 : ∀ w : Bool, (w = true ↔ (a.Kind = 1 ∨ a.Kind = 2)) → D_fh_4.wp (⟨a, e, w⟩ : X_fh_4) fun y => y = (if e.Kind = 5 then decide ((a.Kind = 1 ∨ a.Kind = 2) ∧ a.Mode = 0)
  else if e.Kind = 6 then decide (a.Kind = 1 ∨ a.Kind = 2)
  else if e.Kind = 7 then decide ((a.Kind = 1 ∨ a.Kind = 2) ∧ a.Mode = 2)
  else if e.Kind = 2 ∨ e.Kind = 4 then decide (a.Kind = Es e.Kind ∧ a.AG = e.AG)
  else if e.Kind = 12 then decide (a.Kind = 7 ∧ a.Value = e.Value)
  else decide (a.Kind = Es e.Kind)) := fun w hw => by
  refine of_wp ?_
  simp only [tt_fh_4]
  have dd : ∀ {x y : Int} {p q : Prop} [Decidable q] {b : Bool}, (b = true ↔ p) → (q ↔ p ∧ x = y) → (TT.ite b (.ret (Ae x y)) (.ret false) : TT Tryz.prog R_fh).wp fun z => z = decide q := fun {x y p q _ b} hb h =>
   AK hb (fun k => Cl (ieI.trans ⟨fun e => decide_eq_true (h.2 ⟨k, e⟩), fun e => (h.1 (of_decide_eq_true e)).2⟩)) fun k => (decide_eq_false fun e => k (h.1 e).1).symm
  have tk : (TT.call con_f2b e.Kind fun (y1 : R_f2b) => .ite (Ae a.Kind y1) (.ret (Ae a.AG e.AG)) (.ret false) : TT Tryz.prog R_fh).wp fun z => z = decide (a.Kind = Es e.Kind ∧ a.AG = e.AG) := by
   refine wC (w_f2b e.Kind) fun (y : Int) hy => ?_
   subst hy
   exact dd ieI Iff.rfl
  refine BF (g := id) ieI (fun _ => dd hw Iff.rfl) fun _ => BF (g := id) ieI (fun _ => Cl (hw.trans (by simp))) fun _ => BF (g := id) ieI (fun _ => dd hw Iff.rfl) fun _ => ?_
  refine AK ieI (fun h => ?_) fun h2 => AK ieI (fun h => ?_) fun h4 => ?_
  · rw [if_pos (.inl h)]; exact tk
  · rw [if_pos (.inr h)]; exact tk
  · rw [if_neg (by omega)]
    refine BF (g := id) ieI (fun _ => dd ieI Iff.rfl) fun _ => of_wp ?_
    simp only [tt_fh_16]
    refine wC (w_f2b e.Kind) fun (y : Int) hy => ?_
    subst hy
    exact Cl (ieI.trans (by simp))
 have h3 : (DE e.Kind = true → a.Ring = e.Ring) → D_fh_3.wp (⟨a, e⟩ : X_fh_3) fun y => y = Cp (aA a) e := fun hr => by
  have hh : (!DE e.Kind || decide (a.Ring = e.Ring)) = true := by
   cases q : DE e.Kind
   · rfl
   · simpa using hr q
  unfold Cp
  show D_fh_3.wp _ fun y => y = ((!DE e.Kind || decide (a.Ring = e.Ring)) && _)
  rw [hh, Bool.true_and]
  refine of_wp ?_
  simp only [tt_fh_3]
  exact AK ieI (fun h => h4 true (by simp [h])) fun h => h4 _ (by rw [ieI]; omega)
 refine Az (fun h => AK (p := a.Ring ≠ e.Ring) (by rw [bnI, ieI]) (fun hn => ?_) fun hn => h3 fun _ => Classical.byContradiction hn) fun h => h3 fun k => absurd k h
 unfold Cp
 have : (!DE e.Kind || decide ((aA a).Ring = e.Ring)) = false := by rw [h]; exact decide_eq_false hn
 rw [this]; rfl
theorem Nf (g : Nat → Int) (i v : Int) : (fun k => cond (Nat.beq k i.toNat) v (g k)) = D1 g i v := by
 funext k
 unfold D1
 by_cases h : k = i.toNat
 · subst h; simp
 · rw [I7 h, if_neg h]; rfl
theorem Cc {g : Nat → Int} {i v : Int} (hg : ∀ j, CD (g j)) (hv : CD v) : ∀ j, CD (D1 g i v j) := fun j => by
 unfold D1; split
 · exact hv
 · exact hg j
theorem HV.with {b : Nat} {t : TTh} (h : HV b t) (a : Int) {g : Nat → Int} (hg : ∀ j, CD (g j)) : HV b ⟨a, t.Phase, t.Ring, t.Status, t.AG, g, t.Seen⟩ := ⟨h.k0, h.k1, hg, h.sz, h.sb⟩
theorem w_f2k (i : TIn) (t : TTh) (b : Nat) (hi : Td i) (hr : Bp i = true) (ho : i.Op ≤ 17) (ht : HV b t) (ha : 0 ≤ t.At ∧ t.At < 1000) :
 D_f2k.wp (i, t) fun y => aT y = ES i (aT t) ∧ HV b y := by
 have hf := Be hr
 have hA : BQ i.A 8 = true := by rw [ibI]; omega
 have hB : BQ i.B 8 = true := by rw [ibI]; omega
 have hC : BQ i.C 8 = true := by rw [ibI]; omega
 have hw : IntKind.i64.wrap (t.At + 1) = t.At + 1 := wrap64 (by omega) (by omega)
 refine of_wp ?_
 simp only [tt_f2k, hA, hB, hC, hw, Nf]
 have nx : (TT.ret (TTh.mk (t.At + 1) t.Phase t.Ring t.Status t.AG t.Ao t.Seen) : TT Tryz.prog R_f2k).wp fun y => aT y = { aT t with At := t.At + 1 } ∧ HV b y := ⟨rfl, ht.with _ ht.rg⟩
 have jm : i.Op ≠ 1 → (TT.ret (TTh.mk (IntKind.i64.wrap i.K) t.Phase t.Ring t.Status t.AG t.Ao t.Seen) : TT Tryz.prog R_f2k).wp fun y => aT y = { aT t with At := i.K } ∧ HV b y := fun h => by
  have := hf.2.2.2.2.2.1 h
  rw [wrap64 (by omega) (by omega)]
  exact ⟨rfl, ht.with _ ht.rg⟩
 have e0 : (aT t).At = t.At := rfl
 have e1 : (aT t).Ao = t.Ao := rfl
 unfold ES
 simp only [e0, e1]
 refine AK ieI (fun h => ?_) fun n1 => AK ieI (fun h => ?_) fun n2 => AK ieI (fun h => ?_) fun n15 => AK ieI (fun h => ?_) fun n16 => AK ieI (fun h => ?_) fun n17 => ?_
 · rw [if_pos h]; exact wN rfl ⟨rfl, ht.with _ (Cc ht.rg hi.1)⟩
 · rw [if_neg n1, if_pos h]; exact wN rfl (wN rfl ⟨rfl, ht.with _ (Cc ht.rg (ht.rg _))⟩)
 · rw [if_neg n1, if_neg n2, if_pos (.inl h)]; exact jm n1
 · rw [if_neg n1, if_neg n2]
   refine wN rfl (AK (p := t.Ao i.A.toNat = 0) (by rw [h]; simp [Ae]) (fun q => ?_) fun q => ?_)
   · rw [if_pos (.inr (.inl ⟨h, q⟩))]; exact jm n1
   · rw [if_neg (by omega), if_neg (by omega)]; exact nx
 · rw [if_neg n1, if_neg n2]
   refine wN rfl (AK (p := t.Ao i.A.toNat ≠ 0) (by rw [h]; simp [Ae]) (fun q => ?_) fun q => ?_)
   · rw [if_pos (.inr (.inr ⟨h, q⟩))]; exact jm n1
   · rw [if_neg (by omega), if_neg (by omega)]; exact nx
 · rw [if_neg n1, if_neg n2, if_neg (by omega), if_pos (by omega)]
   refine wN rfl (wN rfl (wC (w_f3h i.Op _ _ (ht.rg _) (ht.rg _) (by omega) (by omega)) fun (y : Int × Bool) hy => wN rfl ?_))
   rw [hy]
   exact ⟨rfl, ht.with _ (Cc ht.rg (Ny (ht.rg _) (ht.rg _)))⟩
theorem Qv {l : List TIn} {t : MT} (h : ¬ (t.At < l.length ∧ (gI l t.At).Op ≤ 17)) : ∀ n, FE l n t = t
 | 0 => rfl
 | n + 1 => by unfold FE; rw [if_neg h]
theorem Ll {l : List TIn} {t : MT} (h : t.At < l.length ∧ (gI l t.At).Op ≤ 17) (n : Nat) : FE l (n + 1) t = FE l n (ES (gI l t.At) t) := by
 show (if _ then _ else _) = _
 rw [if_pos h]
structure InsF (l : Sl TIn) (i : TIn) : Prop where
 ok : Td i
 ri : Bp i = true
 jm : 15 ≤ i.Op ∧ i.Op ≤ 17 → i.K ≤ l.n
theorem Sd {l : Sl TIn} (hl : Pw l) (hc : codeOk l) {a : Int} (h0 : 0 ≤ a) (h1 : a < l.n) : InsF l (l.get a.toNat) := by
 have hk : a.toNat < l.n := by omega
 obtain ⟨c1, c2⟩ := hc.2 _ hk
 exact ⟨hl.i _ hk, c1, fun q => by
  have c3 : ¬ ((l.n : Int) < (l.get a.toNat).K) := fun z => c2 ⟨q.1, q.2, z⟩
  omega⟩
theorem w_f31 (i : TIn) (t : TTh) (l : Sl TIn) (hr : Bp i = true) (h0 : 0 ≤ t.At) (h1 : t.At < l.n) (hi : l.get t.At.toNat = i) (ho : 18 ≤ i.Op) : D_f31.wp (i, t) fun y => aA y = Gy l.L (aT t) := by
 have hf := Be hr
 have hA : BQ i.A 8 = true := by rw [ibI]; omega
 have hg : gI l.L (aT t).At = i := by rw [← hi]; exact Jb l h0 h1
 have hw : IntKind.i64.wrap i.K = i.K := by
  have := hf.2.2.2.2.2.1 (by omega)
  exact wrap64 (by omega) (by omega)
 refine of_wp ?_
 simp only [tt_f31, hA, Gy, hg, hw]
 rw [if_neg (by rw [Sl.Bo]; show t.At ≠ _; omega), if_neg (by omega)]
 exact BF ieI (fun _ => wN rfl rfl) fun _ => BF ieI (fun _ => rfl) fun _ => BF ieI (fun _ => rfl) fun _ => BF ieI (fun _ => rfl) fun _ => BF ieI (fun _ => rfl) fun _ => BF ieI (fun _ => rfl) fun _ => BF ieI (fun _ => wN rfl rfl) fun _ => rfl
theorem w_f8_12 (l : Sl TIn) (s : TTh) (z4 : TTh) (z5 : TAk) (hl : Pw l) (hc : codeOk l) (h0 : 0 ≤ s.At) (h1 : s.At ≤ l.n) :
 D_f8_12.wp (⟨l, s, z4, z5⟩ : X_f8_12) fun y => y.1 = s ∧ aA y.2 = Gy l.L (aT s) := by
 refine of_wp ?_
 simp only [tt_f8_12]
 refine AK ieI (fun h => ⟨rfl, ?_⟩) fun h => ?_
 · unfold Gy
   rw [if_pos (by rw [Sl.Bo]; exact h)]; rfl
 · have h2 : s.At < l.n := by omega
   have hF := Sd hl hc h0 h2
   have hf := Be hF.ri
   refine wN (by rw [ibI]; omega) (wC (w_f2w _) fun (y : Bool) hy => ?_)
   refine AK hy (fun hp => ⟨rfl, ?_⟩) fun hp => wN (by rw [ibI]; omega) ?_
   · unfold Gy
     rw [if_neg (by rw [Sl.Bo]; exact h)]
     have : gI l.L (aT s).At = l.get s.At.toNat := Jb l h0 h2
     rw [this, if_pos hp.2]; rfl
   · exact wC (w_f31 _ s l hF.ri h0 h2 rfl (by omega)) fun y hy => ⟨rfl, hy⟩
theorem w_f8 (l : Sl TIn) (t : TTh) (b : Nat) (hl : Pw l) (hc : codeOk l) (hT : E3 l.L (aT t)) (ht : HV b t) :
 D_f8.wp (l, t) fun y => aT y.1 = (CZ l.L (aT t)).1 ∧ aA y.2 = (CZ l.L (aT t)).2 ∧ HV b y.1 := by
 have a0 : 0 ≤ t.At := hT.a0
 have a1 : t.At ≤ l.n := by have := hT.a1; simpa [aT] using this
 have p1 := hT.p1
 refine of_wp ?_
 simp only [tt_f8]
 unfold CZ
 have es : (aT t).Status = t.Status := rfl
 have ep : (aT t).Phase = t.Phase := rfl
 simp only [es, ep]
 refine AK (p := t.Status ≠ 0) (by rw [bnI, ieI]) (fun h => ?_) fun hs => AK ieI (fun h => ?_) fun hp1 => AK ieI (fun h => ?_) fun hp2 => ?_
 · rw [if_pos h]; exact ⟨rfl, rfl, ht⟩
 · have hq := p1 (by show t.Phase ≠ 0; omega)
   have h2 : t.At < l.n := by have := hq.2.1; simpa [aT] using this
   have hF := Sd hl hc a0 h2
   have hf := Be hF.ri
   refine wN (by rw [ibI]; omega) (wN (by rw [ibI]; omega) ?_)
   rw [if_neg (fun k => k (Classical.byContradiction hs)), if_pos h]
   have : gI l.L (aT t).At = l.get t.At.toNat := Jb l a0 h2
   rw [this]
   exact ⟨rfl, rfl, ht⟩
 · have hq := p1 (by show t.Phase ≠ 0; omega)
   have h2 : t.At < l.n := by have := hq.2.1; simpa [aT] using this
   have hF := Sd hl hc a0 h2
   have hf := Be hF.ri
   have ho : (l.get t.At.toNat).Op = 17 + t.Phase := by
    have := hq.2.2.1
    rwa [show gI l.L (aT t).At = l.get t.At.toNat from Jb l a0 h2] at this
   have hk := hf.2.2.2.2.2.1 (by omega)
   refine wN (by rw [ibI]; omega) ?_
   rw [if_neg (fun k => k (Classical.byContradiction hs)), if_neg hp1, if_pos h, wrap64 (by omega) (by omega)]
   have : gI l.L (aT t).At = l.get t.At.toNat := Jb l a0 h2
   rw [this]
   exact ⟨rfl, rfl, ht⟩
 · rw [if_neg (fun k => k (Classical.byContradiction hs)), if_neg hp1, if_neg hp2]
   simp only
   have h256 := hc.1
   refine Di (tt := tt_f8_8) (fun x : X_f8_8 => x.Ge = l ∧ ∃ k : Nat, x.KP = k ∧ k ≤ 256 ∧ (0 ≤ x.Dh.At ∧ x.Dh.At ≤ l.n) ∧ FE l.L (256 - k) (aT x.Dh) = FE l.L 256 (aT t) ∧ HV b x.Dh)
    (fun x => (256 - x.KP).toNat) (fun _ y => aT y.1 = FE l.L 256 (aT t) ∧ aA y.2 = Gy l.L (FE l.L 256 (aT t)) ∧ HV b y.1) (fun D x hI hD => ?_) ⟨rfl, 0, rfl, by omega, ⟨a0, a1⟩, rfl, ht⟩
   obtain ⟨l', q, s, z4, z5⟩ := x
   obtain ⟨e1, k, e2, hk, hA, hrun, hw⟩ := hI
   simp only at e1 e2 hA hrun hw hD
   subst e1 e2
   simp only [tt_f8_8]
   have fin : (¬ ((aT s).At < l'.L.length ∧ (gI l'.L (aT s).At).Op ≤ 17) ∨ k = 256) → D_f8_12.wp (⟨l', s, z4, z5⟩ : X_f8_12) fun y => aT y.1 = FE l'.L 256 (aT t) ∧ aA y.2 = Gy l'.L (FE l'.L 256 (aT t)) ∧ HV b y.1 := fun h => by
    have he : FE l'.L 256 (aT t) = aT s := by
     rw [← hrun]
     rcases h with h | h
     · exact Qv h _
     · rw [h]; rfl
    rw [he]
    refine (w_f8_12 l' s z4 z5 hl hc hA.1 hA.2).mono fun y hy => ?_
    rw [hy.1]
    exact ⟨rfl, hy.2, hw⟩
   refine AK ilI (fun hlt => AK ieI (fun h => fin (.inl fun z => ?_)) fun h => ?_) fun hlt => fin (.inr (by omega))
   · have := z.1; rw [Sl.Bo] at this; change s.At < _ at this; omega
   · have h2 : s.At < l'.n := by omega
     have hF := Sd hl hc hA.1 h2
     have hf := Be hF.ri
     have hg : gI l'.L (aT s).At = l'.get s.At.toNat := Jb l' hA.1 h2
     refine wN (by rw [ibI]; omega) (wC (w_f36 _) fun (y : Bool) hy => ?_)
     refine AK hy (fun h => fin (.inl fun z => ?_)) fun h => of_wp ?_
     · rw [hg] at z; omega
     · simp only [tt_f8_10]
       have h17 : (l'.get s.At.toNat).Op ≤ 17 := by omega
       refine wN (by rw [ibI]; omega) (wC (w_f2k _ s b hF.ok hF.ri h17 hw (by omega)) fun (y : TTh) hy => of_wp ?_)
       simp only [tt_f8_11]
       have e2 : IntKind.i64.wrap ((k : Int) + 1) = ((k + 1 : Nat) : Int) := by rw [wrap64] <;> omega
       rw [e2]
       have Ob : 0 ≤ y.At ∧ y.At ≤ l'.n := by
        have := Pj (i := l'.get s.At.toNat) (t := aT s) (n := l'.n) hA.1 h2 (fun q => (hf.2.2.2.2.2.1 q).1) hF.jm
        rw [← hy.1] at this; exact this
       refine hD _ ⟨rfl, k + 1, rfl, by omega, Ob, ?_, hy.2⟩ (by simp only; omega)
       have hst : (aT s).At < l'.L.length ∧ (gI l'.L (aT s).At).Op ≤ 17 := ⟨by rw [Sl.Bo]; exact h2, by rw [hg]; exact h17⟩
       rw [← hrun, show 256 - k = (256 - (k + 1)) + 1 by omega, Ll hst, hg, hy.1]
theorem Hm (x : Sl Int) (h : Cs x) (hn : x.n * 8 ≤ 140737488351232) : D_f1m.wp x fun y => Cw y x ∧ Cs y := by
 refine of_wp ?_
 simp only [tt_f1m]
 refine Az (fun e => ⟨⟨(h e).symm, fun i hi => by have := h e; omega⟩, fun _ => rfl⟩) fun _ => wN (room_le hn) ⟨⟨?_, fun i _ => rfl⟩, fun e => ?_⟩
 · exact Nat.zero_add _
 · simp only [Bool.cond_self, Bool.false_eq_true] at e
theorem w_f2l (l : Sl TIn) (t : TTh) (b : Nat) (hb : b * 8 ≤ 140737488351232) (hl : Pw l) (hc : codeOk l) (hT : E3 l.L (aT t)) (ht : HV b t) :
 D_f2l.wp (l, t) fun y => aT y.1 = (CZ l.L (aT t)).1 ∧ aA y.2.1 = (CZ l.L (aT t)).2 ∧ HV b y.1 ∧ y.2.2 = 0 := by
 refine of_wp ?_
 simp only [tt_f2l]
 refine wC (w_fo l t hl ht.k0) fun (y : Bool) hy => ?_
 refine AK bnI (fun h => absurd (hy.2 ⟨hc, hT⟩) h) fun _ => ?_
 have hsb := ht.sb
 refine wC (Hm t.Seen ht.sz (by omega)) fun (z : Sl Int) hz => ?_
 have he : aT ⟨t.At, t.Phase, t.Ring, t.Status, t.AG, t.Ao, z⟩ = aT t := J0 hz.1
 have hn := hz.1.n
 refine wC (w_f8 l ⟨t.At, t.Phase, t.Ring, t.Status, t.AG, t.Ao, z⟩ b hl hc (by rw [he]; exact hT) ⟨ht.k0, ht.k1, ht.rg, hz.2, by show z.n ≤ b; omega⟩) fun (y : TTh × TAk) hy => ?_
 rw [he] at hy
 exact ⟨hy.1, hy.2.1, hy.2.2, rfl⟩
theorem HV.grow {b b' : Nat} {t : TTh} (h : HV b t) (k : b ≤ b') : HV b' t := ⟨h.k0, h.k1, h.rg, h.sz, Nat.le_trans h.sb k⟩
theorem PC {i : TIn} {t : MT} {e : TEv} {v : Int} (h1 : e.Kind ≠ 1) (h3 : e.Kind ≠ 3) (h14 : e.Kind ≠ 14) (h15 : e.Kind ≠ 15) : BX i t e v =
 ⟨t.At + 1, 0, 0, t.Status, 0, (if e.Kind = 2 then D1 t.Ao i.B 0 else if e.Kind = 4 then D1 (D1 t.Ao i.A v) i.B 0 else if e.Kind = 5 then D1 t.Ao i.B 1 else if e.Kind = 6 then D1 t.Ao i.B 2 else if e.Kind = 7 then D1 t.Ao i.B 3 else if e.Kind = 8 then D1 t.Ao i.A e.Value else if e.Kind = 9 then D1 t.Ao i.A e.Value else if e.Kind = 10 then D1 (D1 t.Ao i.A e.Value) i.B 0 else if e.Kind = 11 then D1 t.Ao i.B 1 else t.Ao), if e.Kind = 12 then t.Seen ++ [e.Value] else t.Seen⟩ := by
 unfold BX
 rw [if_neg h1, if_neg h3, if_neg h14, if_neg h15]
theorem Rw {α : Type} (s : Sl α) (x : α) : (snoc s x).L = s.L ++ [x] := by
 apply List.ext_getElem
 · simp [snoc]
 · intro i h1 h2
   have h1 : i < s.n + 1 := by simpa [snoc] using h1
   simp only [Sl.EX]
   by_cases e : i < s.n
   · rw [Jn e, List.getElem_append_left (by simpa using e), Sl.EX]
   · have : i = s.n := by omega
     subst this
     rw [Jo, List.getElem_append_right (by simp)]
     simp
theorem w_fn (i : TIn) (t : TTh) (e : TEv) (v : Int) (b : Nat) (hb : b * 8 + 8 ≤ 140737488351232) (hr : Bp i = true) (ht : HV b t) (ha : 0 ≤ t.At ∧ t.At < 1000) (hv : CD v) (hev : CD e.Value)
 (h1 : e.Kind ≠ 1) (h3 : e.Kind ≠ 3) (h14 : e.Kind ≠ 14) (h15 : e.Kind ≠ 15) :
 D_fn.wp (i, (e, (v, t))) fun y => aT y = BX i (aT t) e v ∧ HV (b + 1) y := by
 have hf := Be hr
 have hA : BQ i.A 8 = true := by rw [ibI]; omega
 have hB : BQ i.B 8 = true := by rw [ibI]; omega
 have hw : IntKind.i64.wrap (t.At + 1) = t.At + 1 := wrap64 (by omega) (by omega)
 have u1 : CD 1 := by unfold CD; decide
 have u2 : CD 2 := by unfold CD; decide
 have u3 : CD 3 := by unfold CD; decide
 have hsb := ht.sb
 rw [PC h1 h3 h14 h15]
 refine of_wp ?_
 simp only [tt_fn, hA, hB, Nf]
 have h23 : ∀ (g : Nat → Int) (sn : Sl Int), (∀ j, CD (g j)) → Cs sn → sn.n ≤ b + 1 →
  D_fn_23.wp (⟨⟨t.At, t.Phase, t.Ring, t.Status, t.AG, g, sn⟩⟩ : X_fn_23) fun y => aT y = ⟨t.At + 1, 0, 0, t.Status, 0, g, sn.L⟩ ∧ HV (b + 1) y := fun g sn hg hs hn => by
  refine of_wp ?_
  simp only [tt_fn_23, hw]
  exact ⟨rfl, ⟨Int.le_refl 0, (by decide : (0 : Int) < 18446744073709551616), hg, hs, hn⟩⟩
 have e0 : (aT t).At = t.At := rfl
 have e1 : (aT t).Ao = t.Ao := rfl
 have e2 : (aT t).Seen = t.Seen.L := rfl
 have e3 : (aT t).Status = t.Status := rfl
 simp only [e0, e1, e2, e3]
 have go : ∀ (g : Nat → Int), (∀ j, CD (g j)) → D_fn_23.wp (⟨⟨t.At, t.Phase, t.Ring, t.Status, t.AG, g, t.Seen⟩⟩ : X_fn_23) fun y => aT y = ⟨t.At + 1, 0, 0, t.Status, 0, g, t.Seen.L⟩ ∧ HV (b + 1) y :=
  fun g hg => h23 g t.Seen hg ht.sz (by omega)
 refine AK ieI (fun h => ?_) fun n2 => AK ieI (fun h => ?_) fun n4 => AK ieI (fun h => ?_) fun n5 => AK ieI (fun h => ?_) fun n6 => AK ieI (fun h => ?_) fun n7 => AK ieI (fun h => ?_) fun n8 => AK ieI (fun h => ?_) fun n9 =>
  AK ieI (fun h => ?_) fun n10 => AK ieI (fun h => ?_) fun n11 => AK ieI (fun h => ?_) fun n12 => ?_
 · simp only [h, if_true, Int.reduceEq, if_false]; exact wN rfl (go _ (Cc ht.rg DN))
 · simp only [h, if_true, Int.reduceEq, if_false]; exact wN rfl (wN rfl (go _ (Cc (Cc ht.rg hv) DN)))
 · simp only [h, if_true, Int.reduceEq, if_false]; exact wN rfl (go _ (Cc ht.rg u1))
 · simp only [h, if_true, Int.reduceEq, if_false]; exact wN rfl (go _ (Cc ht.rg u2))
 · simp only [h, if_true, Int.reduceEq, if_false]; exact wN rfl (go _ (Cc ht.rg u3))
 · simp only [h, if_true, Int.reduceEq, if_false]; exact wN rfl (go _ (Cc ht.rg hev))
 · simp only [h, if_true, Int.reduceEq, if_false]; exact wN rfl (go _ (Cc ht.rg hev))
 · simp only [h, if_true, Int.reduceEq, if_false]; exact wN rfl (wN rfl (go _ (Cc (Cc ht.rg hev) DN)))
 · simp only [h, if_true, Int.reduceEq, if_false]; exact wN rfl (go _ (Cc ht.rg u1))
 · simp only [h, if_true, Int.reduceEq, if_false]
   refine wN (by simp [room]; omega) ?_
   have := h23 t.Ao (snoc t.Seen e.Value) ht.rg (fun z => by cases z) (by show t.Seen.n + 1 ≤ b + 1; omega)
   rw [Rw] at this
   exact this
 · rw [if_neg n2, if_neg n4, if_neg n5, if_neg n6, if_neg n7, if_neg n8, if_neg n9, if_neg n10, if_neg n11, if_neg n12]
   exact go _ ht.rg
theorem Ul {l : List TIn} {t n : MT} {a : MA} {e : TEv} (hq : QO l t n a) (hf : UD a e) (hk : 1 ≤ e.Kind ∧ e.Kind ≤ 15) (h14 : e.Kind ≠ 14) (h15 : e.Kind ≠ 15) : n.At < l.length := by
 have b1 := hf.f1; have b2 := hf.f2; have b3 := hf.f3; have b4 := hf.f4; have b5 := hf.f5; have b8 := hf.f8; have b9 := hf.f9; have b10 := hf.f10; have b12 := hf.f12; have b13 := hf.f13
 have hd : a.Kind = 1 ∨ a.Kind = 2 ∨ a.Kind = 3 ∨ (4 ≤ a.Kind ∧ a.Kind ≤ 7) ∨ a.Kind = 10 ∨ a.Kind = 11 := by omega
 rcases hd with h | h | h | h | h | h
 · exact (hq.k1 h).2.1
 · exact (hq.k2 h).2.1
 · exact (hq.k3 h).2.1
 · exact (hq.kn h).2
 · exact (hq.kp h).2.1
 · exact (hq.kr h).2.1
def Qz (l : List TIn) (t : MT) (e : TEv) : Int :=
 if Bu e = false then 3 else if (CZ l t).2.Kind = 0 ∨ Cp (CZ l t).2 e = false then 11 else 0
theorem w_f20 (rs : List TRg) (l : Sl TIn) (t : TTh) (e : TEv) (v : Int) (b : Nat) (hb : b * 8 + 8 ≤ 140737488351232) (hl : Pw l) (hc : codeOk l) (hcr : G8 rs l.L) (hT : E3 l.L (aT t)) (ht : HV b t) (hv : CD v) (hev : CD e.Value) (het : 0 ≤ e.AG) :
 D_f20.wp (l, (t, (e, v))) fun y => y.2 = Qz l.L (aT t) e ∧ (Qz l.L (aT t) e = 0 → aT y.1 = BX (gI l.L (CZ l.L (aT t)).1.At) (CZ l.L (aT t)).1 e v ∧ HV (b + 1) y.1) := by
 refine of_wp ?_
 simp only [tt_f20]
 refine wC (w_f2l l t b (by omega) hl hc hT ht) fun (y : TTh × TAk × Int) hy => ?_
 obtain ⟨s, a, er⟩ := y
 obtain ⟨hs, ha, hw, h0⟩ := hy
 simp only at hs ha hw h0
 subst h0
 refine AK (p := (0 : Int) ≠ 0) (by rw [bnI, ieI]) (fun h => absurd rfl h) fun _ => ?_
 refine wC (w_f2n e) fun (y : Bool) hy => ?_
 subst hy
 unfold Qz
 rw [← ha]
 refine AK bnI (fun h => ?_) fun h => ?_
 · have h : Bu e = false := by simpa using h
   rw [if_pos h]; exact ⟨rfl, fun k => absurd k (by decide)⟩
 · have hR : Bu e = true := Classical.byContradiction h
   rw [if_neg (by rw [hR]; decide)]
   refine AK ieI (fun hk => ?_) fun hk => wC (w_fh a e) fun (y : Bool) hy => ?_
   · rw [if_pos (.inl hk)]; exact ⟨rfl, fun k => absurd k (by decide)⟩
   · subst hy
     refine AK bnI (fun hf => ?_) fun hf => of_wp ?_
     · rw [if_pos (.inr (by simpa using hf))]; exact ⟨rfl, fun k => absurd k (by decide)⟩
     · have hF : Cp (aA a) e = true := Classical.byContradiction hf
       have hk' : (aA a).Kind ≠ 0 := hk
       rw [if_neg (by rw [hF]; simp [hk'])]
       rw [← hs]
       have hff := RJ hR hF
       have hq := OO hcr hT
       rw [← ha, ← hs] at hq
       have hn := (Lk hcr hT).2
       rw [← hs] at hn
       simp only [tt_f20_8]
       have n1 : Cp (aA a) e = true := hF
       have fin : ∀ {z : MT} {x : TTh}, aT x = z → HV (b + 1) x → (TT.ret ((x, 0) : R_f20) : TT Tryz.prog R_f20).wp fun y => y.2 = 0 ∧ (True → aT y.1 = z ∧ HV (b + 1) y.1) := fun h1 h2 => ⟨rfl, fun _ => ⟨h1, h2⟩⟩
       have hre := (CW hR)
       have tk : CD e.AG := ⟨het, by have := hre.2.2.2.1; omega⟩
       refine AK ieI (fun h => fin (by rw [bT1 _ h]; rfl) ⟨tk.1, tk.2, hw.rg, hw.sz, Nat.le_succ_of_le hw.sb⟩) fun h1 => AK ieI (fun h => fin (by rw [bT3 _ h]; rfl) ⟨tk.1, tk.2, hw.rg, hw.sz, Nat.le_succ_of_le hw.sb⟩) fun h3 =>
        AK ieI (fun h => fin (by rw [T6 _ h]; rfl) ⟨hw.k0, hw.k1, hw.rg, hw.sz, Nat.le_succ_of_le hw.sb⟩) fun h14 => AK ieI (fun h => fin (by rw [T5 _ h]; rfl) ⟨hw.k0, hw.k1, hw.rg, hw.sz, Nat.le_succ_of_le hw.sb⟩) fun h15 => ?_
       have Ob : s.At < l.n := by
        have := Ul (n := aT s) hq hff hre.1 h14 h15
        simpa [aT] using this
       have a0 : 0 ≤ s.At := hn.a0
       have h256 := hc.1
       have hi := Sd hl hc a0 Ob
       have hg : gI l.L (aT s).At = l.get s.At.toNat := Jb l a0 Ob
       rw [hg]
       refine wN (by rw [ibI]; omega) (wC (w_fn _ s e v b hb hi.ri hw (by omega) hv hev h1 h3 h14 h15) fun (y : TTh) hy => fin hy.1 hy.2)
structure RC (c : TRg) (b : Int) (r : TRr) : Prop where
 rg : A7 c = true
 wf : Od c r
 inv : Dt c b (aR r)
 bb : b ≤ 4611686018427387904
section
variable {c : TRg} {b : Int} {r : TRr}
theorem RC.hn (h : RC c b r) : 1 ≤ r.AA.AD.n ∧ r.AA.AD.n ≤ 8 ∧ (r.AA.AD.n : Int) = c.Aa := by
 have := E9 h.rg; have := h.wf.hn; omega
theorem RC.ln (h : RC c b r) : 1 ≤ r.s.x.l.n ∧ r.s.x.l.n ≤ 64 ∧ (r.s.x.l.n : Int) = c.Ee := by
 have := E9 h.rg; have := h.wf.ln; omega
theorem RC.t (h : RC c b r) : 0 ≤ r.AA.tail ∧ r.AA.tail < 4611686018427387904 := by
 have h0 := h.inv.t0; have h1 := h.inv.tb; have := h.bb
 change 0 ≤ r.AA.tail at h0; change r.AA.tail < b at h1; omega
theorem RC.hd (h : RC c b r) {k : Nat} (hk : k < r.AA.AD.n) : 0 ≤ r.AA.AD.get k ∧ r.AA.AD.get k ≤ r.AA.tail ∧ r.AA.tail - r.AA.AD.get k ≤ c.Ee :=
 h.inv.h0 _ (Sl.C3.2 ⟨k, hk, rfl⟩)
theorem Lp {j : Int} (h0 : 0 ≤ j) (h1 : j < r.AA.AD.n) : hd (aR r) j = r.AA.AD.get j.toNat := G1 _ h0 h1 0
theorem Mu : Jh (aR r) = r.s.x.l.n := by simp [Jh, aR]
theorem SA (h : RC c b r) (t : Int) : JY (aR r) t < r.s.x.l.n := by
 have := Mb h.inv h.rg t; simpa [aR] using this
theorem Fs (h : RC c b r) (t : Int) : BM (aR r) t = r.s.x.l.get (JY (aR r) t) := by
 have := SA h t
 unfold BM
 show r.s.x.l.L.getD _ _ = _
 rw [List.getD, Sl.Dy _ this]; rfl
theorem RC.slot (h : RC c b r) (t : Int) : OT c.Ee r.AA.AD.n r.AA.tail r.AA.AD.L (JY (aR r) t) (r.s.x.l.get (JY (aR r) t)) := by
 have := h.inv.sl _ _ (LZ h.inv h.rg t)
 rw [Fs h] at this
 simpa [aR] using this
theorem Ts (x y : Int) : N4 x y = min x y := by
 unfold N4
 by_cases h : y < x
 · rw [ilI.2 h]; show y = _; omega
 · rw [Lo.2 (Int.not_lt.1 h)]; show x = _; omega
theorem Tt (x y : Int) : imax x y = max x y := by
 unfold imax
 by_cases h : x < y
 · rw [ilI.2 h]; show y = _; omega
 · rw [Lo.2 (Int.not_lt.1 h)]; show x = _; omega
theorem Rj (x : Ar Int) (h1 : 1 ≤ x.n) (h8 : x.n ≤ 8) : D_f5.wp x fun y => (∃ k, k < x.n ∧ y = x.get k) ∧ ∀ k, k < x.n → y ≤ x.get k := by
 refine Bs ?_
 simp only [tt_f5]
 refine AK ilI (fun h => by omega) fun _ => of_wp ?_
 simp only [tt_f5_3]
 refine wN (by rw [ibI]; omega) (wN (by simp) ?_)
 refine Di (tt := tt_f5_5) (fun z : X_f5_5 => z.Ad = x ∧ ∃ k : Nat, z.Jt = k ∧ 1 ≤ k ∧ k ≤ x.n ∧ (∃ j, j < x.n ∧ z.Dh = x.get j) ∧ ∀ j, j < k → z.Dh ≤ x.get j) (fun z => (x.n - z.Jt).toNat)
  (fun _ y => (∃ k, k < x.n ∧ y.1 = x.get k) ∧ ∀ k, k < x.n → y.1 ≤ x.get k) (fun D z hI hD => ?_) ⟨rfl, 1, rfl, by omega, by omega, ⟨0, by omega, by simp⟩, fun j hj => by
    have : j = 0 := by omega
    subst this; exact Int.le_refl _⟩
 obtain ⟨m, i, o⟩ := z
 obtain ⟨e0, k, e1, hk1, hk, ⟨j, hj, e2⟩, hle⟩ := hI
 simp only at e0 e1 e2 hle hD
 subst e0 e1
 simp only [tt_f5_5]
 refine AK ilI (fun h => ?_) fun h => ?_
 · have hkm : k < o.n := by omega
   have e3 : IntKind.i64.wrap ((k : Int) + 1) = ((k + 1 : Nat) : Int) := by rw [wrap64] <;> omega
   refine wN (Aw hkm) (wN (by simp) ?_)
   rw [e3, Nat.zero_add, Int.toNat_natCast, Ts]
   refine hD _ ⟨rfl, k + 1, rfl, by omega, hkm, ?_, fun i hi => ?_⟩ (by simp only; omega)
   · by_cases q : m ≤ o.get k
     · exact ⟨j, hj, by show min m _ = _; omega⟩
     · exact ⟨k, hkm, by show min m _ = _; omega⟩
   · show min m (o.get k) ≤ o.get i
     by_cases q : i = k
     · subst q; omega
     · have := hle i (by omega); omega
 · exact ⟨⟨j, hj, e2⟩, fun i hi => hle i (by omega)⟩
theorem L9 (h : RC c b r) : D_f1a.wp r.AA fun y => P1 (aR r).Aj y := by
 refine Bs ?_
 simp only [tt_f1a]
 have hn := h.hn
 refine wC (Rj ⟨r.AA.AD.n, r.AA.AD.get⟩ hn.1 hn.2.1) fun (y : Int) hy => wN (by simp) ?_
 obtain ⟨⟨k, hk, e⟩, hle⟩ := hy
 refine ⟨Sl.C3.2 ⟨k, hk, e.symm⟩, fun z hz => ?_⟩
 obtain ⟨i, hi, rfl⟩ := Sl.C3.1 hz
 exact hle i hi
theorem FT (h : RC c b r) : D_f1e.wp r fun y => y = Fz (aR r) := by
 refine Bs ?_
 simp only [tt_f1e]
 refine wC (L9 h) fun (y : Int) hy => Cl ?_
 rw [Nw hy, leI, h.wf.ms, Mu]
 obtain ⟨k, hk, e⟩ := Sl.C3.1 hy.1
 have := h.hd hk
 have := h.t
 rw [BR (by omega) (by omega), h.wf.ln]
 exact Iff.rfl
theorem Ce (r : TRr) : D_fz.wp r fun y => y = (aR r).Bj := Bs rfl
theorem IY (j : Int) (s : TRc_L1) (a : Ar Int) : D_fx.wp (j, (s, a)) fun y => y = true ↔ 0 ≤ j ∧ j < s.AD.n := by
 refine Bs ?_
 simp only [tt_fx]
 exact AK leI (fun h => DS ilI ⟨fun k => ⟨h, k⟩, fun k => k.2⟩) fun h => B1 fun k => h k.1
theorem D0 (j : Int) (h0 : 0 ≤ j) (h1 : j < r.AA.AD.n) : D_f13.wp (j, r) fun y => y = GP (aR r) j := by
 refine Bs ?_
 simp only [tt_f13]
 refine wC (IY _ _ _) fun (y : Bool) hy => ?_
 refine AK bnI (fun h => absurd (hy.2 ⟨h0, h1⟩) h) fun _ => wN (by rw [ibI]; exact ⟨h0, h1⟩) (wN (by simp) (wN (by simp) ?_))
 unfold GP
 rw [Lp h0 h1]
 refine Cl ?_
 rw [decide_eq_true_eq, Nat.zero_add]
 exact ieI
theorem TZ (h : RC c b r) {t : Int} (h0 : 0 ≤ t) : Int.tmod t (IntKind.u64.wrap (r.s.x.l.n : Int)) = (JY (aR r) t : Int) := by
 have := h.ln
 rw [BR (by omega) (by omega), Int.tmod_eq_emod_of_nonneg h0]
 unfold JY
 rw [Mu]
 have := Int.emod_nonneg t (b := (r.s.x.l.n : Int)) (by omega)
 omega
theorem Jk (h : RC c b r) {t : Int} (h0 : 0 ≤ t) (a : Ar TSo) (z : Int) : D_fq.wp (t, ((⟨⟨r.s.x.l.nil, r.s.x.l.n⟩, z⟩ : TSs_L0), a)) fun y => y = (JY (aR r) t, r.s.x.l.n) := by
 refine Bs ?_
 simp only [tt_fq]
 have hl := h.ln
 have hp := SA h t
 rw [TZ h h0, BR (by omega) (by omega)]
 refine wN (by rw [bnI, ieI]; omega) (wN (Aw hp) ?_)
 show (0 + Int.toNat _, _) = _
 rw [Int.toNat_natCast, Nat.zero_add]
theorem w_f2o {t : Int} (h0 : 0 ≤ t) (h1 : t < 4611686018427387904) : D_f2o.wp t fun y => y = 2 * t + 1 := by
 refine of_wp ?_
 simp only [tt_f2o]
 show IntKind.u64.wrap _ = _
 rw [BR (z := 2 * t) (by omega) (by omega), BR (by omega) (by omega)]
theorem L8 (h : RC c b r) {t : Int} (h0 : 0 ≤ t) (h1 : t < 4611686018427387904) : D_f1j.wp (t, r.s.x) fun y => y = decide ((BM (aR r) t).AQ = 2 * t) := by
 refine Bs ?_
 simp only [tt_f1j]
 refine AK ilI (fun _ => ?_) fun h => absurd h1 h
 refine wC (Jk h h0 _ _) fun (y : Nat × Nat) hy => ?_
 subst hy
 refine wN (by simp) (wC (w_f2a t h0 (by omega)) fun (y : Int) hy => wN (by simp) ?_)
 subst hy
 rw [Fs h]
 exact Cl (by rw [decide_eq_true_eq]; exact ieI)
theorem NO (h : RC c b r) {t : Int} (h0 : 0 ≤ t) : D_f1x.wp (t, r) fun y => y = Kf (aR r) t := by
 have ht := h.t
 refine Bs ?_
 simp only [tt_f1x]
 unfold Kf
 have e : (aR r).A6 = r.AA.tail := rfl
 rw [e]
 refine AK ilI (fun hlt => ?_) fun hlt => ?_
 · refine wN (by simp [h.wf.sn]) (wC (L8 h h0 (by omega)) fun (y : Bool) hy => wN (by simp [h.wf.sn]) (CV ?_))
   subst hy
   exact Cl (by simp only [decide_eq_true_eq]; exact ⟨fun q => ⟨hlt, q⟩, fun q => q.2⟩)
 · exact (decide_eq_false fun q => hlt q.1).symm
theorem I8 (h : RC c b r) {j t : Int} (hj0 : 0 ≤ j) (hj : j < r.AA.AD.n) (h0 : 0 ≤ t) (h1 : t < 4611686018427387904) :
 D_fl.wp (j, (t, r.s.x)) fun y => y = 0 ↔ (BM (aR r) t).AQ = 2 * t + 1 ∧ E2 (BM (aR r) t).Left j = true := by
 have hn := h.hn
 refine Bs ?_
 simp only [tt_fl]
 refine AK leI (fun q => absurd h1 (Int.not_lt.2 q)) fun _ => AK ilI (fun q => by omega) fun _ => AK leI (fun q => by rw [h.wf.rd] at q; omega) fun _ => of_wp ?_
 simp only [tt_fl_5]
 refine wC (Jk h h0 _ _) fun (y : Nat × Nat) hy => ?_
 subst hy
 rw [Fs h]
 have hs := h.slot t
 generalize r.s.x.l.get (JY (aR r) t) = x at hs
 have ne : ∀ {e : Int} {q : Prop}, e ≠ 0 → ¬ q → (e = 0 ↔ q) := fun h k => ⟨fun e => absurd e h, fun e => absurd e k⟩
 refine wN (by simp) (wC (w_f2o h0 h1) fun (y : Int) hy => ?_)
 subst hy
 refine AK ilI (fun q => wN (by simp) (ne (show (9 : Int) ≠ 0 by decide) fun k => by omega)) fun q1 => wN (by simp) (wC (w_f2o h0 h1) fun (y : Int) hy => ?_)
 subst hy
 refine AK ilI (fun q => wN (by simp) (ne (show (11 : Int) ≠ 0 by decide) fun k => by omega)) fun q2 => wN (by simp) (wN (by rw [leI]; exact hj0) ?_)
 have hst : x.AQ = 2 * t + 1 := by omega
 have hl := hs.held (by omega)
 have h28 : (2 : Int) ^ r.AA.AD.n ≤ 2 ^ 8 := by exact_mod_cast Nat.pow_le_pow_right (by decide) (by omega : r.AA.AD.n ≤ 8)
 have hb := OQ (x := x.Left) (j := j.toNat) (by omega) (by omega) (by omega)
 rw [show ((j.toNat : Nat) : Int) = j by omega] at hb
 refine AK (ieI.trans hb) (fun q => wN (by simp) (ne (show (11 : Int) ≠ 0 by decide) fun k => ?_)) fun q => wN (by simp) ⟨fun _ => ⟨hst, by simpa using q⟩, fun _ => rfl⟩
 rw [q] at k; exact absurd k.2 (by decide)
theorem Og (h : RC c b r) {j t : Int} (hj0 : 0 ≤ j) (hj : j < r.AA.AD.n) (h0 : 0 ≤ t) : D_f24.wp (j, (t, r)) fun y => y = PB (aR r) j t := by
 have ht := h.t
 have hh := h.hd (k := j.toNat) (by omega)
 refine Bs ?_
 simp only [tt_f24]
 refine wC (EZ j r.AA) fun (y : Bool) hy => ?_
 refine AK hy (fun _ => wN (by rw [ibI]; omega) (wN (by simp) ?_)) fun k => absurd ⟨hj0, hj⟩ k
 unfold PB
 rw [Lp hj0 hj, Nat.zero_add]
 refine AK ilI (fun hlt => wN (by simp [h.wf.sn]) ?_) fun hlt => wN (by simp) (decide_eq_false fun q => hlt q.1).symm
 have e : D_f1r.wp (j, (t, r.s.x)) fun y => y = true ↔ (BM (aR r) t).AQ = 2 * t + 1 ∧ E2 (BM (aR r) t).Left j = true := by
  refine Bs ?_
  simp only [tt_f1r]
  exact wC (I8 h hj0 hj h0 (by omega)) fun (y : Int) hy => ieI.trans hy
 refine wC e fun (y : Bool) hy => wN (by simp [h.wf.sn]) (CV (wN (by simp) (Cl ?_)))
 rw [decide_eq_true_eq]
 exact hy.trans ⟨fun q => ⟨hlt, q⟩, fun q => q.2⟩
end


theorem KE {α : Type} (s : Sl α) (k : Nat) (y : α) : (KF s k y).L = s.L.set k y := by
 apply List.ext_getElem
 · simp [KF]
 · intro i h1 h2
   rw [Sl.EX]
   by_cases e : i = k
   · subst e; rw [Hr, List.getElem_set_self]
   · rw [Jp e, List.getElem_set_ne (fun q => e q.symm), Sl.EX]
section
theorem N2 {x : Int} {j : Nat} (h0 : 0 ≤ x) (h1 : x < 256) (hj : j < 8) (hb : E2 x (j : Int) = true) : Vm.bits .andNot IntKind.i64 x (shl IntKind.i64 1 (j : Int)) = x - 2 ^ j ∧ 0 ≤ x - 2 ^ j := by
 have := PE ⟨x.toNat, by omega⟩ ⟨j, hj⟩
 simp only [show ((x.toNat : Nat) : Int) = x by omega] at this
 have h2 := (Kz (n := 8) (k := j) h0 (by exact_mod_cast h1) (by omega) hj hj hb).2
 exact ⟨this hb, h2⟩
theorem Ma {j : Nat} (hj : j ≤ 8) : (2 : Int) ^ j ≤ 256 := by exact_mod_cast Nat.pow_le_pow_right (by decide : 0 < 2) hj
end
theorem IG {p : TPg} {t : Int} (h0 : 0 ≤ t) (h1 : t < p.AB.n) : CL (aP p) t = (p.AB.get t.toNat).L := by
 unfold CL aP
 simp only [List.getD, List.getElem?_map]
 rw [Sl.Dy _ (by omega)]; rfl
theorem Hi {p : TPg} {i : Int} (h0 : 0 ≤ i) (h1 : i < p.AF.n) : Kw (aP p) i = p.AF.get i.toNat := G1 _ h0 h1 _
theorem Rp {s : TSt} {t : Int} (h0 : 0 ≤ t) (h1 : t < s.AB.n) : M9 (aS s) t = aT (s.AB.get t.toNat) := by
 unfold M9 aS
 simp only [List.getD, List.getElem?_map]
 rw [Sl.Dy _ (by omega)]; rfl
theorem KH {s : TSt} {i : Int} (h0 : 0 ≤ i) (h1 : i < s.AF.n) : Cf (aS s) i = K9 (s.AF.get i.toNat) := by
 unfold Cf aS
 simp only [List.getD, List.getElem?_map]
 rw [Sl.Dy _ (by omega)]; rfl
theorem HW {f : TFa} {t : Int} (h0 : 0 ≤ t) (h1 : t < f.threads.n) : M9 (aF f) t = aT (f.threads.get t.toNat) := by
 unfold M9 aF
 simp only [List.getD, List.getElem?_map]
 rw [Sl.Dy _ (by omega)]; rfl
theorem R2 {f : TFa} {i : Int} (h0 : 0 ≤ i) (h1 : i < f.rings.n) : Cf (aF f) i = aR (f.rings.get i.toNat).x := by
 unfold Cf aF
 simp only [List.getD, List.getElem?_map]
 rw [Sl.Dy _ (by omega)]; rfl
structure UI (e : TEv) : Prop where
 tk : CD e.AG
 vl : CD e.Value
section
variable {p : TPg} {B : Int} {m : MS} {e : TEv}
theorem Pg (h : DD (aP p) B m) (f : Dn (aP p) m e) (k : DE e.Kind = true) :
 (0 ≤ e.Ring ∧ e.Ring < p.AF.n) ∧ ((Al (aP p) m e.Thread).Kind = 2 ∨ (Al (aP p) m e.Thread).Kind = 11 → 0 ≤ (Al (aP p) m e.Thread).Reader ∧ (Al (aP p) m e.Thread).Reader < (p.AF.get e.Ring.toNat).Aa) ∧
   (e.Kind = 3 ∨ e.Kind = 4 → 0 ≤ (Al (aP p) m e.Thread).Reader ∧ (Al (aP p) m e.Thread).Reader < (p.AF.get e.Ring.toNat).Aa) := by
 obtain ⟨r0, r1, r2⟩ := H8 h f k
 have hf := RJ f.re f.ft
 have r1 : e.Ring.toNat < p.AF.n := by simpa [aP] using r1
 rw [Hi r0 (by omega)] at r2
 exact ⟨⟨r0, by omega⟩, r2, fun q => r2 (q.imp hf.f3 fun z => (hf.f4 z).1)⟩
theorem He (h : DD (aP p) B m) (f : Dn (aP p) m e) : 0 ≤ e.Thread ∧ e.Thread < p.AB.n := by
 have h1 := f.lt
 have h2 := h.nt
 have : (aP p).AB.length = p.AB.n := by simp [aP]
 have := f.th
 omega
end
section
variable {p : TPg} {B : Int}
theorem I5 {B : Int} {m : MS} (h : DD (aP p) B m) {t : Int} (h0 : 0 ≤ t) (h1 : t < p.AB.n) : G8 p.AF.L (p.AB.get t.toNat).L := by
 have : (aP p).AB[t.toNat]? = some (p.AB.get t.toNat).L := by
  unfold aP
  simp only [List.getElem?_map]
  rw [Sl.Dy _ (by omega)]; rfl
 exact QB h this
end
def UV (m : MS) : Prop := ∀ r ∈ m.AF, ∀ x ∈ r.A4, CD x.Value
theorem Ru {i : TIn} {t : MT} (hk : CD i.K) (h : ∀ j, CD (t.Ao j)) : ∀ j, CD ((ES i t).Ao j) := by
 unfold ES
 repeat' split
 · exact Cc h hk
 · exact Cc h (h _)
 · exact h
 · exact Cc h (Ny (h _) (h _))
 · exact h
theorem Pn {l : List TIn} (hl : ∀ i ∈ l, CD i.K) : ∀ (n : Nat) (t : MT), (∀ j, CD (t.Ao j)) → 0 ≤ t.At → (∀ n' : Nat, 0 ≤ (FE l n' t).At) → ∀ j, CD ((FE l n t).Ao j)
 | 0, _, h, _, _ => h
 | n + 1, t, h, h0, hA => by
   unfold FE
   split
   · rename_i hc
     have hs : ∀ n' : Nat, 0 ≤ (FE l n' (ES (gI l t.At) t)).At := fun n' => by rw [← Ll hc]; exact hA _
     exact Pn hl n _ (Ru (hl _ (Hd h0 hc.1)) h) (hs 0) hs
   · exact h
theorem SK {rs : List TRg} {l : List TIn} {t : MT} (hc : G8 rs l) (hl : ∀ i ∈ l, CD i.K) (hT : E3 l t) (h : ∀ j, CD (t.Ao j)) : (∀ j, CD ((CZ l t).1.Ao j)) ∧ CD (CZ l t).2.Value := by
 unfold CZ
 repeat' split
 · exact ⟨h, DN⟩
 · exact ⟨h, h _⟩
 · exact ⟨h, DN⟩
 · have hr := Pn hl 256 t h hT.a0 fun n => (HA hc n t hT.a0 hT.a1).2.1
   refine ⟨hr, ?_⟩
   simp only [Gy]
   repeat' split
   all_goals first | exact DN | exact hr _
theorem KC {r : MR} (h : ∀ x ∈ r.A4, CD x.Value) (t : Int) : CD (BM r t).Value := by
 unfold BM
 rw [List.getD_eq_getElem?_getD]
 cases q : r.A4[JY r t]? with
 | none => exact DN
 | some x => exact h _ (List.mem_of_getElem? q)
theorem Pp {m : MS} (h : UV m) (i : Int) : ∀ x ∈ (Cf m i).A4, CD x.Value := by
 unfold Cf
 rw [List.getD_eq_getElem?_getD]
 cases q : m.AF[i.toNat]? with
 | none => intro x hx; cases hx
 | some x => exact h _ (List.mem_of_getElem? q)
theorem Qb {r : MR} {a : MA} {e : TEv} (h : ∀ x ∈ r.A4, CD x.Value) (ha : CD a.Value) : ∀ x ∈ (Cn r a e).A4, CD x.Value := by
 unfold Cn
 repeat' split
 · exact h
 · intro x hx
   rcases List.mem_or_eq_of_mem_set hx with q | q
   · exact h x q
   · subst q; exact ha
 · exact h
 · intro x hx
   rcases List.mem_or_eq_of_mem_set hx with q | q
   · exact h x q
   · subst q
     unfold Qx
     split
     · exact DN
     · exact KC h _
 · exact h
 · exact h
theorem RY {P : MP} {m : MS} {e : TEv} (h : UV m) (ha : CD (Al P m e.Thread).Value) : UV (Ah P m e) := by
 intro r hr
 unfold Ah at hr
 simp only at hr
 split at hr
 · rcases List.mem_or_eq_of_mem_set hr with q | q
   · exact h r q
   · subst q; exact Qb (Pp h _) ha
 · exact h r hr
theorem Uw {P : MP} : UV (Cr P) := by
 intro r hr x hx
 simp only [Cr, List.mem_map] at hr
 obtain ⟨c, _, rfl⟩ := hr
 simp only [JG, List.mem_map] at hx
 obtain ⟨i, _, rfl⟩ := hx
 exact DN
theorem IU.k {p : TPg} (h : IU p) {t : Nat} (ht : t < p.AB.n) : ∀ i ∈ (p.AB.get t).L, CD i.K := fun i hi => by
 obtain ⟨j, hj, rfl⟩ := Sl.C3.1 hi
 exact (h.ins t ht j hj).1
theorem map_set {α β : Type} (f : α → β) (l : List α) (k : Nat) (x : α) : (l.set k x).map f = (l.map f).set k (f x) := by
 apply List.ext_getElem
 · simp
 · intro i h1 h2
   simp only [List.getElem_map]
   by_cases e : k = i
   · subst e; simp
   · simp [List.getElem_set_ne e]

structure FC (p : TPg) (B : Int) (k : Nat) (f : TFa) : Prop where
 hp : IU p
 inv : DD (aP p) B (aF f)
 wf : UL p k f
 uv : UV (aF f)
 hB : B ≤ 2305843009213693952
 hk : k ≤ 1000000000
theorem Dz {P : Program} {R : Type} {b1 b2 : Bool} {pr : Prop} {r : R} {Q : R → Prop} (h1 : b1 = true) (h2 : b2 = true) (h : Q r) : (TT.need b1 (TT.side pr (TT.need b2 (TT.ret r))) : TT P R).wp Q := ⟨h1, h2, h⟩
section
variable {p : TPg} {B : Int} {k : Nat} {f : TFa} {e : TEv}
theorem FC.small (h : FC p B k f) : 1 ≤ p.AB.n ∧ p.AB.n ≤ 8 ∧ p.AF.n ≤ 8 := ⟨(Bd h.inv.pi).1, (Bd h.inv.pi).2.1, (Bd h.inv.pi).2.2.1⟩
theorem FC.code (h : FC p B k f) {t : Int} (h0 : 0 ≤ t) (h1 : t < p.AB.n) : Pw (f.p.AB.get t.toNat) ∧ codeOk (f.p.AB.get t.toNat) ∧ (f.p.AB.get t.toNat).L = CL (aP p) t ∧ f.p.AB.n = p.AB.n := by
 have hc := h.wf.cp
 have ht : t.toNat < p.AB.n := by omega
 have hs := (hc.t t.toNat ht).1
 refine ⟨hs.Pw (h.hp.c ht), ?_, ?_, hc.n⟩
 · exact QA (p := f.p) (by rw [hc.same]; exact h.inv.pi) (by rw [hc.n]; exact ht)
 · rw [hs.L, IG h0 h1]
theorem FC.MI (h : FC p B k f) {t : Int} (h0 : 0 ≤ t) (h1 : t < p.AB.n) : E3 (CL (aP p) t) (aT (f.threads.get t.toNat)) := by
 have ht := h.wf.tn
 have := h.inv.MI (t := t) (by simp [aF]; omega)
 rwa [HW h0 (by omega)] at this
theorem FC.ring (h : FC p B k f) {i : Int} (h0 : 0 ≤ i) (h1 : i < p.AF.n) : RC (p.AF.get i.toNat) B (f.rings.get i.toNat).x ∧ (f.rings.get i.toNat).nil = false ∧ Cf (aF f) i = aR (f.rings.get i.toNat).x := by
 have hr := h.wf.rn
 have hB := h.hB
 have h2 : i.toNat < f.rings.n := by omega
 have hR := h.inv.LM (i := i) (by simp [aP]; omega)
 rw [Hi h0 h1, R2 h0 (by omega)] at hR
 obtain ⟨w1, w2⟩ := h.wf.rw _ h2
 exact ⟨⟨hR.2, w2, hR.1, by omega⟩, w1, R2 h0 (by omega)⟩
theorem GG (t : Int) (f : TFa) : D_f14.wp (t, f) fun y => y = true ↔ 0 ≤ t ∧ t < f.threads.n := by
 refine Bs ?_
 simp only [tt_f14]
 exact AK leI (fun h => wN (by simp) (DS ilI ⟨fun k => ⟨h, k⟩, fun k => k.2⟩)) fun h => B1 fun k => h k.1
theorem GH (h : FC p B k f) {t : Int} (h0 : 0 ≤ t) (h1 : t < p.AB.n) : D_f15.wp (t, f) fun y => aA y = Al (aP p) (aF f) t := by
 obtain ⟨c1, c2, c3, c4⟩ := h.code h0 h1
 have htn := h.wf.tn
 have hk := h.hk
 have hT := h.MI h0 h1
 rw [← c3] at hT
 refine Bs ?_
 simp only [tt_f15, Nat.zero_add]
 refine wN (by rw [ibI]; omega) (wN (by rw [ibI]; omega) (wN (by simp) ?_))
 refine wC (w_f2l _ _ k (by omega) c1 c2 hT (h.wf.tw _ (by omega))) fun (y : TTh × TAk × Int) hy => wN (by simp) ?_
 unfold Al
 rw [HW h0 (by omega), ← c3]
 exact hy.2.1
theorem Qy : Ex (aP p) (aF f) e = if Bu e = false then 3 else if (f.threads.n : Int) ≤ e.Thread then 5 else if (Al (aP p) (aF f) e.Thread).Kind = 0 ∨ Cp (Al (aP p) (aF f) e.Thread) e = false then 11 else 0 := by
 unfold Ex
 rw [show ((aF f).AB.length : Int) = f.threads.n by simp [aF]]
theorem Gk (h : FC p B k f) (he : UI e) : D_f10.wp (e, f) fun y => y = Ex (aP p) (aF f) e := by
 have htn := h.wf.tn
 have hk := h.hk
 refine Bs ?_
 simp only [tt_f10, Nat.zero_add]
 rw [Qy]
 refine wC (w_f2n e) fun (y : Bool) hy => ?_
 subst hy
 refine BF (g := Prod.fst) (by rw [bnI]; simp) (fun _ => rfl) fun hR => ?_
 have hR : Bu e = true := by simpa using hR
 have hre := CW hR
 refine wC (GG e.Thread f) fun (y : Bool) hy => ?_
 refine AK bnI (fun q => ?_) fun q => ?_
 · rw [if_pos (Int.not_lt.1 fun z => q (hy.2 ⟨hre.2.1.1, z⟩))]; rfl
 · have hh := hy.1 (Classical.byContradiction q)
   have h0 := hh.1
   have h1 : e.Thread < p.AB.n := by omega
   obtain ⟨c1, c2, c3, c4⟩ := h.code h0 h1
   have hT := h.MI h0 h1
   rw [← c3] at hT
   have hcr := I5 h.inv h0 h1
   rw [← IG h0 h1, ← c3] at hcr
   refine wN (by rw [ibI]; omega) (wN (by rw [ibI]; omega) (wN (by simp) ?_))
   refine wC (w_f20 _ _ _ e 0 k (by omega) c1 c2 hcr hT (h.wf.tw _ (by omega)) DN he.vl he.tk.1) fun (y : TTh × Int) hy => wN (by simp) ?_
   have e1 : Al (aP p) (aF f) e.Thread = (CZ (f.p.AB.get e.Thread.toNat).L (aT (f.threads.get e.Thread.toNat))).2 := by
    unfold Al
    rw [HW h0 (by omega), ← c3]
   rw [if_neg (by omega), e1]
   show y.2 = _
   rw [hy.1]
   unfold Qz
   rw [if_neg (by rw [hR]; simp)]
theorem LC (h : FC p B k f) (a : TAk) (hr : 0 ≤ e.Ring ∧ e.Ring < p.AF.n) (hrd : e.Kind = 3 ∨ e.Kind = 4 → 0 ≤ a.Reader ∧ a.Reader < (p.AF.get e.Ring.toNat).Aa) (ht : 0 ≤ e.AG) :
 D_f18.wp (e, (a, f)) fun y => y = Dv (Cf (aF f) e.Ring) (aA a) e := by
 obtain ⟨hC, hnil, hrn⟩ := h.ring hr.1 hr.2
 have hn := hC.hn
 have hfr := h.wf.rn
 have e1 : (aA a).Reader = a.Reader := rfl
 refine Bs ?_
 simp only [tt_f18, Nat.zero_add]
 have nd : ((true && true) && (((Nat.beq f.rings.n f.rings.n) && (Nat.blt e.Ring.toNat f.rings.n)) && (!(f.rings.get e.Ring.toNat).nil))) = true := by simp [hnil]; omega
 have nd2 : ((true && true) && (Nat.beq f.rings.n f.rings.n)) = true := by simp
 rw [hrn]
 unfold Dv
 rw [e1]
 refine wN (by rw [ibI]; omega) (wN (by simp [hnil]) ?_)
 have bd : ∀ {x y : Int}, Ae x y = decide (x = y) := fun {x y} => Cl (by rw [decide_eq_true_eq]; exact ieI)
 refine BF (g := Prod.fst) ieI (fun _ => wC (FT hC) fun (y : Bool) hy => ?_) fun n1 => BF (g := Prod.fst) ieI (fun _ => wC (NO hC ht) fun (y : Bool) hy => Dz nd nd2 hy) fun n2 =>
  BF (g := Prod.fst) ieI (fun q3 => ?_) fun n3 => BF (g := Prod.fst) ieI (fun q4 => ?_) fun n4 => wC (FR _) fun (y : Int) hy => Dz nd nd2 ?_
 · subst hy
   refine AK bnI (fun q => wC (FR _) fun (y : Int) hy => Dz nd nd2 ?_) fun q => Dz nd nd2 ?_
   · subst hy
     rw [show Fz (aR (f.rings.get e.Ring.toNat).x) = false by simpa using q]
     exact bd
   · rw [show Fz (aR (f.rings.get e.Ring.toNat).x) = true from Classical.byContradiction q]; rfl
 · obtain ⟨j0, j1⟩ := hrd (.inl q3)
   refine wC (D0 a.Reader j0 (by omega)) fun (y : Bool) hy => ?_
   subst hy
   refine AK bnI (fun q => wC (Gj a.Reader _ j0 (by omega)) fun (y : Int) hy => Dz nd nd2 ?_) fun q => Dz nd nd2 ?_
   · subst hy
     rw [show GP (aR (f.rings.get e.Ring.toNat).x) a.Reader = false by simpa using q, Lp j0 (by omega)]
     exact bd
   · rw [show GP (aR (f.rings.get e.Ring.toNat).x) a.Reader = true from Classical.byContradiction q]; rfl
 · obtain ⟨j0, j1⟩ := hrd (.inr q4)
   exact wC (Og hC j0 (by omega) ht) fun (y : Bool) hy => Dz nd nd2 hy
 · subst hy
   exact bd
theorem LD (h : FC p B k f) (a : TAk) (hr : 0 ≤ a.Ring ∧ a.Ring < p.AF.n) (hrd : a.Kind ≠ 1 → 0 ≤ a.Reader ∧ a.Reader < (p.AF.get a.Ring.toNat).Aa) :
 D_f11.wp (a, f) fun y => y = Co (Cf (aF f) a.Ring) (aA a) := by
 obtain ⟨hC, hnil, hrn⟩ := h.ring hr.1 hr.2
 have hn := hC.hn
 have hfr := h.wf.rn
 have e1 : (aA a).Reader = a.Reader := rfl
 have e2 : (aA a).Kind = a.Kind := rfl
 refine Bs ?_
 simp only [tt_f11, Nat.zero_add]
 have nd : ((true && true) && (((Nat.beq f.rings.n f.rings.n) && (Nat.blt a.Ring.toNat f.rings.n)) && (!(f.rings.get a.Ring.toNat).nil))) = true := by simp [hnil]; omega
 have nd2 : ((true && true) && (Nat.beq f.rings.n f.rings.n)) = true := by simp
 rw [hrn]
 unfold Co
 rw [e1, e2]
 refine wN (by rw [ibI]; omega) (wN (by simp [hnil]) ?_)
 refine BF (g := Prod.fst) ieI (fun _ => wC (Ce _) fun (y : Bool) hy => ?_) fun q => ?_
 · subst hy
   refine Az (fun q => Dz nd nd2 (by rw [q]; rfl)) fun q => wC (FT hC) fun (y : Bool) hy => Dz nd nd2 ?_
   subst hy
   rw [show (aR (f.rings.get a.Ring.toNat).x).Bj = false by simpa using q]; rfl
 · obtain ⟨j0, j1⟩ := hrd q
   exact wC (D0 a.Reader j0 (by omega)) fun (y : Bool) hy => Dz nd nd2 hy
theorem w_f2e (hk : 1 ≤ e.Kind) : D_f2e.wp e fun y => y = BK e.Kind := by
 refine of_wp ?_
 simp only [tt_f2e]
 exact AK leI (fun q => (BE.2 (by omega)).symm) fun q => Cl (by rw [BE]; exact ieI.trans (by omega))
theorem Fo (h : FC p B k f) (he : UI e) : D_fb.wp (e, f) fun y => y = BZ (aP p) (aF f) e := by
 have hfr := h.wf.rn
 refine Bs ?_
 simp only [tt_fb, Nat.zero_add]
 refine wC (Gk h he) fun (y : Int) hy => ?_
 subst hy
 unfold BZ
 refine AK (p := Ex (aP p) (aF f) e ≠ 0) (by rw [bnI, ieI]) (fun q => by rw [decide_eq_false q]; rfl) fun q => ?_
 have q := Classical.byContradiction q
 rw [decide_eq_true q, Bool.true_and]
 have F := fitting q
 have hth := He h.inv F
 refine wC (GH h hth.1 hth.2) fun (a : TAk) ha => ?_
 rw [← ha]
 have hf := RJ F.re F.ft
 have hre := CW F.re
 have hrg := fun z => Pg h.inv F z
 rw [← ha] at hf hrg
 have n0 := h.inv.n0
 change 0 ≤ f.now at n0
 have hnow : (aF f).ED = f.now := rfl
 have hend : (aF f).Bt = f.ended := rfl
 -- no, Eg, time
 have no : 5 ≤ e.Kind ∧ e.Kind ≤ 7 → D_f11.wp (a, f) fun y => y = Co (Cf (aF f) e.Ring) (aA a) := fun z => by
  obtain ⟨r1, r2, _⟩ := hrg (CT.2 (by omega))
  have hr : a.Ring = e.Ring := hf.rg (CT.2 (by omega))
  have h5 := hf.f5 z
  rw [← hr]
  rw [← hr] at r1 r2
  exact LD h a r1 fun w => r2 (.inl (h5.resolve_left w))
 have nd : 5 ≤ e.Kind ∧ e.Kind ≤ 7 ∨ e.Kind = 1 → (BQ e.Ring f.rings.n = true ∧ (((Nat.beq f.rings.n f.rings.n) && true) && (!(f.rings.get e.Ring.toNat).nil)) = true ∧ ((true && true) && (((Nat.beq f.rings.n f.rings.n) && (Nat.blt e.Ring.toNat f.rings.n)) && (!(f.rings.get e.Ring.toNat).nil))) = true ∧ Cf (aF f) e.Ring = aR (f.rings.get e.Ring.toNat).x) := fun z => by
  obtain ⟨r1, _, _⟩ := hrg (CT.2 (by omega))
  obtain ⟨_, hnil, hrn⟩ := h.ring r1.1 r1.2
  exact ⟨by rw [ibI]; omega, by simp [hnil], by simp [hnil]; omega, hrn⟩
 have nd2 : ((true && true) && (Nat.beq f.rings.n f.rings.n)) = true := by simp
 unfold Iu
 simp only
 rw [hnow, hend]
 refine AK ieI (fun k5 => ?_) fun n5 => AK ieI (fun k7 => ?_) fun n7 => AK ieI (fun k6 => ?_) fun n6 => ?_
 · rw [if_pos (.inl k5)]
   obtain ⟨d1, d2, d3, d4⟩ := nd (.inl (by omega))
   refine wC (no (by omega)) fun (y : Bool) hy => ?_
   subst hy
   refine Az (fun z => wN d1 (wN d2 (wC (Ce _) fun (y : Bool) hy => Dz d3 nd2 ?_))) fun z => ?_
   · rw [z, d4, hy]; rfl
   · rw [show Co (Cf (aF f) e.Ring) (aA a) = false by simpa using z]; rfl
 · rw [if_pos (.inr k7)]
   obtain ⟨d1, d2, d3, d4⟩ := nd (.inl (by omega))
   refine wC (no (by omega)) fun (y : Bool) hy => ?_
   subst hy
   refine Az (fun z => wN d1 (wN d2 (wC (Ce _) fun (y : Bool) hy => Dz d3 nd2 ?_))) fun z => ?_
   · rw [z, d4, hy]; rfl
   · rw [show Co (Cf (aF f) e.Ring) (aA a) = false by simpa using z]; rfl
 · rw [if_neg (by omega), if_pos k6]
   obtain ⟨d1, d2, d3, d4⟩ := nd (.inl (by omega))
   refine wC (no (by omega)) fun (y : Bool) hy => ?_
   subst hy
   refine Az (fun z => wN d1 (wN d2 (wC (Ce _) fun (y : Bool) hy => Dz d3 nd2 ?_))) fun z => ?_
   · rw [z, d4, hy]; rfl
   · rw [show Co (Cf (aF f) e.Ring) (aA a) = false by simpa using z]; rfl
 · rw [if_neg (by omega), if_neg n6]
   refine BF (g := Prod.fst) ieI (fun _ => ?_) fun n8 => BF (g := Prod.fst) ieI (fun _ => rfl) fun n10 => ?_
   · have := he.vl
     refine AK leI (fun z => ?_) fun z => (decide_eq_false fun w => z w.1).symm
     rw [BR (by have := this.1; omega) (by have := this.2; omega)]
     exact Cl (by rw [decide_eq_true_eq]; exact ilI.trans ⟨fun w => ⟨z, w⟩, fun w => w.2⟩)
   · have tu : BK e.Kind = true → D_f18.wp (e, (a, f)) fun y => y = Dv (Cf (aF f) e.Ring) (aA a) e := fun z => by
      obtain ⟨r1, _, r2⟩ := hrg (I9 z)
      exact LC h a r1 r2 he.tk.1
     refine BF (g := Prod.fst) ieI (fun k1 => ?_) fun n1 => of_wp ?_
     · obtain ⟨d1, d2, d3, d4⟩ := nd (.inr k1)
       refine wC (tu (BE.2 (by omega))) fun (y : Bool) hy => ?_
       subst hy
       refine Az (fun z => wN d1 (wN d2 (wC (Ce _) fun (y : Bool) hy => Dz d3 nd2 ?_))) fun z => ?_
       · rw [z, d4, hy]; rfl
       · rw [show Dv (Cf (aF f) e.Ring) (aA a) e = false by simpa using z]; rfl
     · simp only [tt_fb_16]
       refine wC (w_f2e hre.1.1) fun (y : Bool) hy => ?_
       subst hy
       refine AK bnI (fun z => ?_) fun z => ?_
       · rw [show BK e.Kind = false by simpa using z]; rfl
       · have z := Classical.byContradiction z
         rw [z]
         exact wC (tu z) fun y hy => hy
end
theorem QW {α : Type} {T T' : Sl α} (h2 : T.n = T'.n) (h3 : ∀ i, T.get i = T'.get i) : T.L = T'.L := Sl.S9 h2 fun i _ => h3 i
section
variable {c : TRg} {b : Int} {r : TRr}
theorem NK (h : RC c b r) {t v : Int} (h0 : 0 ≤ t) (h1 : t < 4611686018427387904) (hst : (BM (aR r) t).AQ = 2 * t) :
 D_f2g.wp (t, (v, r.s.x)) fun y => y.2.l.L = r.s.x.l.L.set (JY (aR r) t) ⟨2 * t + 1, v, 2 ^ r.AA.AD.n - 1⟩ ∧ y.2.AO = r.s.x.AO ∧ Cs y.2.l ∧ y.2.l.n = r.s.x.l.n := by
 have hn := h.hn
 rw [Fs h] at hst
 refine of_wp ?_
 simp only [tt_f2g]
 refine AK leI (fun q => by omega) fun _ => wC (Jk h h0 _ _) fun (y : Nat × Nat) hy => ?_
 subst hy
 refine wN (by simp) (wC (w_f2a t h0 (by omega)) fun (y : Int) hy => ?_)
 subst hy
 refine AK (p := (r.s.x.l.get (JY (aR r) t)).AQ < 2 * t) ilI (fun q => by omega) fun _ => wN (by simp) (wC (w_f2a t h0 (by omega)) fun (y : Int) hy => ?_)
 subst hy
 refine AK (p := 2 * t < (r.s.x.l.get (JY (aR r) t)).AQ) ilI (fun q => by omega) fun _ => wC (w_f2o h0 h1) fun (y : Int) hy => ?_
 subst hy
 have hrd := h.wf.rd
 have hp8 := Ma (j := r.AA.AD.n) hn.2.1
 have hpp := Gt r.AA.AD.n
 refine wN (by rw [leI, hrd]; omega) (wN (by simp) (wN (by simp) ⟨?_, rfl, h.wf.lz, rfl⟩))
 rw [← KE]
 refine QW rfl fun i => ?_
 have e : IntKind.i64.wrap (shl IntKind.i64 1 r.s.x.AO - 1) = 2 ^ r.AA.AD.n - 1 := by
  rw [hrd, JC (by omega) (by omega), show c.Aa.toNat = r.AA.AD.n by omega, wrap64 (by omega) (by omega)]
 show (⟨_, _, cond _ (IntKind.i64.wrap (shl IntKind.i64 1 r.s.x.AO - 1)) _⟩ : TSo) = cond (Nat.beq i _) _ _
 rw [e]
 cases Nat.beq i (JY (aR r) t) <;> rfl
theorem NL (h : RC c b r) {j t : Int} (hj0 : 0 ≤ j) (hj : j < r.AA.AD.n) (h0 : 0 ≤ t) (h1 : t < 2305843009213693952) (hg : (BM (aR r) t).AQ = 2 * t + 1 ∧ E2 (BM (aR r) t).Left j = true) :
 D_f2h.wp (j, (t, r.s.x)) fun y => y.1 = (BM (aR r) t).Value ∧ y.2.2.l.L = r.s.x.l.L.set (JY (aR r) t) (Qx (BM (aR r) t) j t (Jh (aR r))) ∧ y.2.2.AO = r.s.x.AO ∧ Cs y.2.2.l ∧ y.2.2.l.n = r.s.x.l.n := by
 have hn := h.hn
 have hl := h.ln
 have hs := h.slot t
 refine of_wp ?_
 simp only [tt_f2h]
 refine wC (I8 h hj0 hj h0 (by omega)) fun (y : Int) hy => ?_
 refine AK (p := y ≠ 0) (by rw [bnI, ieI]) (fun q => absurd (hy.2 hg) q) fun _ => wC (Jk h h0 _ _) fun (y : Nat × Nat) hy => ?_
 subst hy
 rw [Fs h] at hg ⊢
 rw [Mu]
 obtain ⟨g1, g2⟩ := hg
 simp only [Nat.beq_refl, cond_true]
 generalize hx : r.s.x.l.get (JY (aR r) t) = x at hs g1 g2
 have hheld := hs.held (by omega)
 have h28 := Ma (j := r.AA.AD.n) hn.2.1
 obtain ⟨jn, rfl⟩ : ∃ jn : Nat, j = jn := ⟨j.toNat, by omega⟩
 obtain ⟨hcl, hcl0⟩ := N2 (j := jn) (x := x.Left) (by omega) (by omega) (by omega) g2
 rw [hcl, BR (z := (r.s.x.l.n : Int)) (by omega) (by omega), BR (z := t + (r.s.x.l.n : Int)) (by omega) (by omega)]
 have n1 : (true && (Nat.beq r.s.x.l.n r.s.x.l.n)) = true := by simp
 refine wN (by simp) (wN (by simp) (wN (by rw [leI]; exact hj0) (wN (by simp) (wN (by simp) (AK ieI (fun e => ?_) fun e => ?_)))))
 · refine wC (w_f2a (t + (r.s.x.l.n : Int)) (by omega) (by omega)) fun (y : Int) hy => wN (by simp) (wN (by simp) ⟨rfl, ?_, rfl, h.wf.lz, rfl⟩)
   subst hy
   rw [← KE]
   refine QW rfl fun i => ?_
   unfold Qx
   rw [Int.toNat_natCast, if_pos e]
   show (⟨_, _, _⟩ : TSo) = cond (Nat.beq i _) _ _
   cases Nat.beq i (JY (aR r) t) <;> rfl
 · refine wN (by simp) ⟨rfl, ?_, rfl, h.wf.lz, rfl⟩
   rw [← KE]
   refine QW rfl fun i => ?_
   unfold Qx
   rw [Int.toNat_natCast, if_neg e]
   show (⟨_, _, _⟩ : TSo) = cond (Nat.beq i _) _ _
   cases Nat.beq i (JY (aR r) t) <;> rfl
theorem J4 (h : RC c b r) {t v : Int} (h0 : 0 ≤ t) (hf : Kf (aR r) t = true) : D_f26.wp (t, (v, r)) fun y => Od c y.2 ∧ aR y.2 = Qw (aR r) t v := by
 have ht := h.t
 simp only [Kf, decide_eq_true_eq] at hf
 have hlt : t < r.AA.tail := hf.1
 refine of_wp ?_
 simp only [tt_f26]
 refine AK leI (fun q => by omega) fun _ => wN (by simp [h.wf.sn]) (wC (NK h h0 (by omega) hf.2) fun (y : Int × TSs) hy => ⟨⟨rfl, hy.2.1.trans h.wf.rd, h.wf.ms, h.wf.hz, hy.2.2.1, h.wf.hn, ?_⟩, ?_⟩)
 · show (y.2.l.n : Int) = _; rw [hy.2.2.2]; exact h.wf.ln
 · show (⟨_, _, _, y.2.l.L⟩ : MR) = _
   rw [hy.1]
   unfold Qw
   simp [aR]
theorem J3 (h : RC c b r) (hb : b ≤ 2305843009213693952) {j t : Int} (hj0 : 0 ≤ j) (hj : j < r.AA.AD.n) (h0 : 0 ≤ t) (hh : PB (aR r) j t = true) :
 D_f27.wp (j, (t, r)) fun y => y.1 = (BM (aR r) t).Value ∧ Od c y.2.2 ∧ aR y.2.2 = SO (aR r) j t := by
 have htb := h.inv.tb
 change r.AA.tail < b at htb
 have hd := h.hd (k := j.toNat) (by omega)
 simp only [PB, decide_eq_true_eq, Lp hj0 hj] at hh
 refine of_wp ?_
 simp only [tt_f27]
 refine wC (EZ j r.AA) fun (y : Bool) hy => ?_
 refine AK bnI (fun q => absurd (hy.2 ⟨hj0, hj⟩) q) fun _ => wN (by rw [ibI]; exact ⟨hj0, hj⟩) (wN (by simp) ?_)
 rw [Nat.zero_add]
 refine AK leI (fun q => by omega) fun _ => wN (by simp) (wN (by simp [h.wf.sn]) (wC (NL h hj0 hj h0 (by omega) hh.2) fun (y : Int × Int × TSs) hy => ⟨hy.1, ⟨rfl, hy.2.2.1.trans h.wf.rd, h.wf.ms, h.wf.hz, hy.2.2.2.1, h.wf.hn, ?_⟩, ?_⟩))
 · show (y.2.2.l.n : Int) = _; rw [hy.2.2.2.2]; exact h.wf.ln
 · show (⟨_, _, _, y.2.2.l.L⟩ : MR) = _
   rw [hy.2.1]
   rfl
theorem NN (h : RC c b r) {j : Int} (hj0 : 0 ≤ j) (hj : j < r.AA.AD.n) (he : GP (aR r) j = false) : D_f16.wp (j, r) fun y => Od c y.2.2 ∧ aR y.2.2 = Fy (aR r) j := by
 have hn := h.hn
 have ht := h.t
 have hd := h.hd (k := j.toNat) (by omega)
 refine of_wp ?_
 simp only [tt_f16]
 refine wC (EZ j r.AA) fun (y : Bool) hy => ?_
 refine AK bnI (fun q => absurd (hy.2 ⟨hj0, hj⟩) q) fun _ => wC (D0 j hj0 hj) fun (y : Bool) hy => ?_
 subst hy
 rw [he]
 refine Az (fun q => by cases q) fun _ => wC (D0 j hj0 hj) fun (y : Bool) hy => ?_
 subst hy
 rw [he]
 refine Az (fun q => by cases q) fun _ => of_wp ?_
 simp only [tt_f16_9, Nat.zero_add]
 have i1 : BQ j r.AA.AD.n = true := by rw [ibI]; exact ⟨hj0, hj⟩
 have n1 : ((Nat.beq r.AA.AD.n r.AA.AD.n) && true) = true := by simp
 have n2 : ((true && true) && (Nat.beq r.AA.AD.n r.AA.AD.n)) = true := by simp
 refine wN i1 (wN n1 (wN i1 (wN n1 (wN n2 (wN i1 (wN n1 (wN n2 ⟨⟨h.wf.sn, h.wf.rd, h.wf.ms, h.wf.hz, h.wf.lz, h.wf.hn, h.wf.ln⟩, ?_⟩)))))))
 unfold Fy
 rw [Lp hj0 hj]
 show (⟨_, Sl.L _, _, _⟩ : MR) = ⟨_, r.AA.AD.L.set _ _, _, _⟩
 rw [← KE]
 congr 1
 refine QW rfl fun i => ?_
 show cond (Nat.beq i j.toNat) (IntKind.u64.wrap (r.AA.AD.get j.toNat + 1)) _ = cond _ _ _
 rw [BR (by omega) (by omega)]
theorem MB (r : TRr) : D_f2i.wp r fun y => y = (0, { r with closed := true }) := of_wp rfl
theorem MC (h : RC c b r) : D_f2f.wp r fun y => (r.closed = true ∧ y = (0, (10, r))) ∨ (r.closed = false ∧ Fz (aR r) = true ∧ y = (0, (8, r))) ∨
 (r.closed = false ∧ Fz (aR r) = false ∧ y.2.1 = 0 ∧ y.2.2 = { r with AA := ⟨r.AA.tail + 1, r.AA.AD⟩ }) := by
 have ht := h.t
 refine of_wp ?_
 simp only [tt_f2f]
 refine Az (fun q => .inl ⟨q, rfl⟩) fun q => wC (FT h) fun (y : Bool) hy => ?_
 have q : r.closed = false := by simpa using q
 subst hy
 refine Az (fun q2 => .inr (.inl ⟨q, q2, rfl⟩)) fun q2 => .inr (.inr ⟨q, by simpa using q2, rfl, ?_⟩)
 rw [BR (z := r.AA.tail + 1) (by omega) (by omega)]
theorem Me {s : TRs} (hc : A7 c = true) (h : Dt c b (K9 s)) (hb : b ≤ 4611686018427387904) (hz : Cs s.Aj) (sz : Cs s.A4) : UZ s := by
 have hf := E9 hc
 have c1 := h.cap
 have c2 := h.rd
 simp only [K9, Sl.Bo] at c1 c2
 have t0 := h.t0
 have tb := h.tb
 change 0 ≤ s.A6 at t0
 change s.A6 < b at tb
 have m64 : (64 : Nat) ≤ maxLen := by decide
 refine ⟨t0, by omega, by omega, fun j hj => ?_, hz, ⟨by omega, fun i hi => ?_, sz⟩⟩
 · have := h.h0 _ (Sl.C3.2 ⟨j, hj, rfl⟩)
   change 0 ≤ s.Aj.get j ∧ s.Aj.get j ≤ s.A6 ∧ _ at this
   omega
 · have hs := h.sl i (s.A4.get i) (Sl.Dy _ hi)
   have h8 := Ma (j := (K9 s).Aj.length) (by simp [K9]; omega)
   have h0 := hs.s0
   have h1 := hs.s1
   have hl : 0 ≤ (s.A4.get i).Left ∧ (s.A4.get i).Left < 256 := by
    rcases (by omega : (s.A4.get i).AQ % 2 = 0 ∨ (s.A4.get i).AQ % 2 = 1) with e | e
    · have := hs.free e; omega
    · have := hs.held e; omega
   exact ⟨h0, by omega, by omega, by omega⟩
theorem KI {s : TRs} (hc : A7 c = true) (h : Dt c b (K9 s)) (hb : b ≤ 4611686018427387904) : Nc c s := by
 have hf := E9 hc
 have c1 := h.cap
 have c2 := h.rd
 simp only [K9, Sl.Bo] at c1 c2
 have tb := h.tb
 change s.A6 < b at tb
 have hnr : (K9 s).Aj.length = c.Aa.toNat := by simp [K9]; omega
 refine ⟨⟨c1, fun i hi => ?_⟩, c2, by omega, fun j hj => ?_, fun i hi => ?_⟩
 · have hs := h.sl i (s.A4.get i) (Sl.Dy _ hi)
   exact ⟨hs.s1, hs.U4, hs.free, fun e => by have := hs.held e; rw [hnr] at this; exact this⟩
 · have := h.h0 _ (Sl.C3.2 ⟨j, hj, rfl⟩)
   exact this.2
 · have hs := h.sl i (s.A4.get i) (Sl.Dy _ hi)
   refine ⟨hs.P5, fun j hj => ⟨fun e1 e2 => hs.Tv e1 j _ (Sl.Dy _ hj) e2, fun e1 e2 => hs.Sn e1 e2 _ (Sl.C3.2 ⟨j, hj, rfl⟩)⟩⟩
end
structure RU (p : TPg) (rs rs' : Sl (Bx TRr)) (i : Nat) (m : MR) : Prop where
 n : rs'.n = rs.n
 ot : ∀ j, j ≠ i → rs'.get j = rs.get j
 nl : (rs'.get i).nil = false
 wf : Od (p.AF.get i) (rs'.get i).x
 eq : aR (rs'.get i).x = m
theorem Lb {p : TPg} {rs rs' : Sl (Bx TRr)} {i : Nat} {m : MR} (z : Bx TRr) (h1 : rs'.n = rs.n) (h2 : ∀ j, rs'.get j = cond (Nat.beq j i) z (rs.get j)) (h3 : z.nil = false) (h4 : Od (p.AF.get i) z.x) (h5 : aR z.x = m) : RU p rs rs' i m := by
 have hi : rs'.get i = z := by rw [h2, Nat.beq_refl]; rfl
 exact ⟨h1, fun j hj => by rw [h2, I7 hj]; rfl, by rw [hi]; exact h3, by rw [hi]; exact h4, by rw [hi]; exact h5⟩
theorem RU.L {p : TPg} {rs rs' : Sl (Bx TRr)} {i : Nat} {m : MR} (h : RU p rs rs' i m) : rs'.L.map (fun r => aR r.x) = (rs.L.map fun r => aR r.x).set i m := by
 apply List.ext_getElem
 · simp [h.n]
 · intro j h1 h2
   have hj : j < rs.n := by simpa [h.n] using h1
   simp only [List.getElem_map, Sl.EX]
   by_cases e : j = i
   · subst e; rw [List.getElem_set_self, h.eq]
   · rw [List.getElem_set_ne (fun q => e q.symm)]
     simp only [List.getElem_map, Sl.EX, h.ot j e]
section
variable {p : TPg} {B : Int} {k : Nat} {f : TFa} {e : TEv}
theorem J5 (h : FC p B k f) {i : Int} (h0 : 0 ≤ i) (h1 : i < p.AF.n) (hF : Fz (Cf (aF f) i) = false) :
 D_f22.wp (i, f) fun y => ∃ rs, y = ⟨f.p, f.threads, rs, f.now, f.reads, f.ended⟩ ∧ RU p f.rings rs i.toNat { Cf (aF f) i with A6 := (Cf (aF f) i).A6 + 1 } := by
 obtain ⟨hC, hnil, hrn⟩ := h.ring h0 h1
 have hfr := h.wf.rn
 have hi : i.toNat < p.AF.n := by omega
 rw [hrn] at hF ⊢
 have nd : ((true && true) && ((Nat.beq f.rings.n f.rings.n) && (Nat.blt i.toNat f.rings.n))) = true := by simp; omega
 have nd2 : ((true && true) && (Nat.beq f.rings.n f.rings.n)) = true := by simp
 have ib : BQ i f.rings.n = true := by rw [ibI]; omega
 refine of_wp ?_
 simp only [tt_f22, Nat.zero_add]
 refine wN ib (wN (by simp [hnil]) (wC (MC hC) fun (y : Int × Int × TRr) hy => wN nd (CV (wN nd2 ?_))))
 rcases hy with ⟨hcl, rfl⟩ | ⟨_, hfl, _⟩ | ⟨hcl, _, hy0, hyr⟩
 · refine AK (p := (10 : Int) ≠ 10) (by rw [bnI, ieI]) (fun q => absurd rfl q) fun _ => ?_
   simp only [Nat.beq_refl, cond_true]
   have hc := hC.rg
   refine wN ib (wN (by simp) (wC (GF (p.AF.get i.toNat) _ hc hC.wf) fun (s : TRs) hs => wN (by simp; omega) (CV (wN (by simp) ?_))))
   obtain ⟨e1, e2, e3⟩ := hs
   have hcp := h.wf.cp
   have hI := hC.inv.UJ hF
   have ht := hC.t
   have hT : s.A6 = (f.rings.get i.toNat).x.AA.tail := congrArg MR.A6 e1
   have hb := h.hB
   rw [BR (z := s.A6 + 1) (by rw [hT]; omega) (by rw [hT]; omega), hcp.r.g _ hi]
   have es : K9 ⟨s.A6 + 1, s.Aj, s.Bj, s.A4⟩ = { aR (f.rings.get i.toNat).x with A6 := (aR (f.rings.get i.toNat).x).A6 + 1 } := by
    rw [← e1]; rfl
   rw [← es] at hI
   refine wN (by rw [ibI, hcp.r.n]; omega) (wC (w_f9 (p.AF.get i.toNat) ⟨s.A6 + 1, s.Aj, s.Bj, s.A4⟩ hc (Me hc hI (by omega) e2 e3)) fun (z : Bx TRr × Int) hz => ?_)
   rcases hz with ⟨_, z2, zn, zw, za⟩ | ⟨hno, _⟩
   rotate_left
   · exact absurd (KI hc hI (by omega)) hno
   refine AK ieI (fun _ => wN ib (wN (by simp) (wN (by simp) ⟨_, rfl, Lb z.1 rfl (fun j => ?_) zn zw (za.trans es)⟩))) fun q => absurd z2 q
   show (⟨_, _⟩ : Bx TRr) = cond (Nat.beq j _) _ _
   cases Nat.beq j i.toNat <;> rfl
 · rw [hF] at hfl; cases hfl
 · refine AK (p := y.2.1 ≠ 10) (by rw [bnI, ieI]) (fun _ => ⟨_, rfl, Lb ⟨false, y.2.2⟩ rfl (fun j => ?_) rfl ?_ ?_⟩) fun q => absurd (by rw [hy0]; decide) q
   · show (⟨_, _⟩ : Bx TRr) = cond (Nat.beq j _) _ _
     cases Nat.beq j i.toNat <;> rfl
   · show Od _ y.2.2
     rw [hyr]
     exact ⟨hC.wf.sn, hC.wf.rd, hC.wf.ms, hC.wf.hz, hC.wf.lz, hC.wf.hn, hC.wf.ln⟩
   · show aR y.2.2 = _
     rw [hyr]; rfl
theorem Q5 (h : FC p B k f) (he : UI e) (F : Dn (aP p) (aF f) e) (v : Int) (hv : CD v) (hve : v = if e.Kind = 4 then (BM (Cf (aF f) e.Ring) e.AG).Value else 0) (rs : Sl (Bx TRr)) (now rd : Int) (en : Bool) :
 D_fd_20.wp (⟨e, v, ⟨f.p, f.threads, rs, now, rd, en⟩⟩ : X_fd_20) fun y => ∃ ts, y = ⟨f.p, ts, rs, now, rd, en⟩ ∧ ts.n = f.threads.n ∧ ts.L.map aT = (Ah (aP p) (aF f) e).AB ∧ ∀ t, t < ts.n → HV (k + 1) (ts.get t) := by
 obtain ⟨h0, h1⟩ := He h.inv F
 obtain ⟨c1, c2, c3, c4⟩ := h.code h0 h1
 have htn := h.wf.tn
 have hk := h.hk
 have hT := h.MI h0 h1
 rw [← c3] at hT
 have hcr := I5 h.inv h0 h1
 rw [← IG h0 h1, ← c3] at hcr
 refine of_wp ?_
 simp only [tt_fd_20, Nat.zero_add]
 have ib : BQ e.Thread f.threads.n = true := by rw [ibI]; omega
 refine wN (by rw [ibI]; omega) (wN ib (wN (by simp) (wC (w_f20 _ _ _ e v k (by omega) c1 c2 hcr hT (h.wf.tw _ (by omega)) hv he.vl he.tk.1) fun (y : TTh × Int) hy => wN ib (wN (by simp) (wN (by simp) ?_)))))
 have hd : Qz (f.p.AB.get e.Thread.toNat).L (aT (f.threads.get e.Thread.toNat)) e = 0 := by
  unfold Qz
  have hft := F.ft
  have ha0 := F.a0
  unfold Al at hft ha0
  rw [HW h0 (by omega), ← c3] at hft ha0
  rw [if_neg (by rw [F.re]; simp), if_neg (by rw [hft]; simp [ha0])]
 obtain ⟨hy1, hy2⟩ := hy.2 hd
 have hts : ∀ {T : Sl TTh}, T.n = f.threads.n → (∀ j, T.get j = cond (Nat.beq j e.Thread.toNat) y.1 (f.threads.get j)) → T.L.map aT = (Ah (aP p) (aF f) e).AB ∧ ∀ t, t < T.n → HV (k + 1) (T.get t) := fun {T} e1 e2 => by
  refine ⟨?_, fun t ht => ?_⟩
  · have : T.L = f.threads.L.set e.Thread.toNat y.1 := by rw [← KE]; exact QW e1 e2
    rw [this, map_set, hy1]
    unfold Ah
    simp only
    rw [HW h0 (by omega), ← c3, hve]
    rfl
  · rw [e2]
    by_cases q : t = e.Thread.toNat
    · subst q; rw [Nat.beq_refl]; exact hy2
    · rw [I7 q]; exact (h.wf.tw t (by omega)).grow (by omega)
 refine ⟨_, rfl, rfl, hts rfl fun j => ?_⟩
 show (⟨_, _, _, _, _, _, _⟩ : TTh) = cond (Nat.beq j _) _ _
 cases Nat.beq j e.Thread.toNat <;> rfl
theorem FC.QF (h : FC p B k f) {t : Int} (h0 : 0 ≤ t) (h1 : t < p.AB.n) : CD (Al (aP p) (aF f) t).Value := by
 have htn := h.wf.tn
 have := h.MI h0 h1
 unfold Al
 rw [HW h0 (by omega)]
 rw [IG h0 h1] at this ⊢
 exact (SK (I5 h.inv h0 h1) (h.hp.k (by omega)) this (h.wf.tw _ (by omega)).rg).2
theorem LF (h : FC p B k f) (he : UI e) (F : Dn (aP p) (aF f) e) (ht : BK e.Kind = true → Dv (Cf (aF f) e.Ring) (Al (aP p) (aF f) e.Thread) e = true) (hB : B + 1 ≤ 2305843009213693952) (hk : k + 1 ≤ 1000000000) :
 D_fd.wp (e, f) fun y => aF y = Ah (aP p) (aF f) e ∧ FC p (B + 1) (k + 1) y := by
 obtain ⟨t0, t1⟩ := He h.inv F
 have hfr := h.wf.rn
 have htn := h.wf.tn
 have hre := CW F.re
 have hI := Kk h.inv h.hB he.tk.1 F ht
 have hU := RY h.uv (h.QF t0 t1)
 refine of_wp ?_
 simp only [tt_fd, Nat.zero_add]
 refine wC (GH h t0 t1) fun (a : TAk) ha => ?_
 -- the end of all ways
 have fin : ∀ (v : Int) (rs : Sl (Bx TRr)) (now rd : Int) (en : Bool), CD v → v = (if e.Kind = 4 then (BM (Cf (aF f) e.Ring) e.AG).Value else 0) → rs.n = p.AF.n → (∀ i, i < rs.n → (rs.get i).nil = false ∧ Od (p.AF.get i) (rs.get i).x) →
  rs.L.map (fun r => aR r.x) = (Ah (aP p) (aF f) e).AF → now = (Ah (aP p) (aF f) e).ED → rd = (Ah (aP p) (aF f) e).Reads → en = (Ah (aP p) (aF f) e).Bt →
  D_fd_20.wp (⟨e, v, ⟨f.p, f.threads, rs, now, rd, en⟩⟩ : X_fd_20) fun y => aF y = Ah (aP p) (aF f) e ∧ FC p (B + 1) (k + 1) y := fun v rs now rd en hv hve r1 r2 r3 e1 e2 e3 => by
  refine (Q5 h he F v hv hve rs now rd en).mono fun y hy => ?_
  obtain ⟨ts, rfl, n1, n2, n3⟩ := hy
  have ea : aF ⟨f.p, ts, rs, now, rd, en⟩ = Ah (aP p) (aF f) e := by
   show (⟨_, _, _, _, _⟩ : MS) = _
   rw [n2, r3, e1, e2, e3]
  exact ⟨ea, h.hp, by rw [ea]; exact hI, ⟨h.wf.cp, by show ts.n = _; omega, n3, r1, r2⟩, by rw [ea]; exact hU, hB, hk⟩
 have vz : e.Kind ≠ 4 → (0 : Int) = (if e.Kind = 4 then (BM (Cf (aF f) e.Ring) e.AG).Value else 0) := fun q => by rw [if_neg q]
 have nw : e.Kind ≠ 8 → f.now = (Ah (aP p) (aF f) e).ED := fun q => by unfold Ah; simp only; rw [if_neg q]; rfl
 have rd : e.Kind ≠ 10 → f.reads = (Ah (aP p) (aF f) e).Reads := fun q => by unfold Ah; simp only; rw [if_neg q]; rfl
 have en : e.Kind ≠ 11 → f.ended = (Ah (aP p) (aF f) e).Bt := fun q => by unfold Ah; simp only; rw [if_neg q]; rfl
 have rgs : BK e.Kind = false → f.rings.L.map (fun r => aR r.x) = (Ah (aP p) (aF f) e).AF := fun q => by unfold Ah; simp only [q, Bool.false_eq_true, if_false]; rfl
 -- with a ring
 have ring : BK e.Kind = true → ∀ (v : Int) (rs : Sl (Bx TRr)), CD v → v = (if e.Kind = 4 then (BM (Cf (aF f) e.Ring) e.AG).Value else 0) → RU p f.rings rs e.Ring.toNat (Cn (Cf (aF f) e.Ring) (Al (aP p) (aF f) e.Thread) e) →
  D_fd_20.wp (⟨e, v, ⟨f.p, f.threads, rs, f.now, f.reads, f.ended⟩⟩ : X_fd_20) fun y => aF y = Ah (aP p) (aF f) e ∧ FC p (B + 1) (k + 1) y := fun q v rs hv hve hu => by
  have h1 := BE.1 q
  refine fin v rs _ _ _ hv hve (by rw [hu.n]; exact hfr) (fun i hi => ?_) ?_ (nw (by omega)) (rd (by omega)) (en (by omega))
  · by_cases z : i = e.Ring.toNat
    · subst z; exact ⟨hu.nl, hu.wf⟩
    · rw [hu.ot i z]; exact h.wf.rw i (by rw [← hu.n]; exact hi)
  · rw [hu.L]
    unfold Ah
    simp only [q, if_true]
    rfl
 have tk := fun z => BE (k := e.Kind).2 z
 have info := fun (q : BK e.Kind = true) => by
  obtain ⟨r1, _, r2⟩ := Pg h.inv F (I9 q)
  obtain ⟨hC, hnil, hrn⟩ := h.ring r1.1 r1.2
  exact (⟨r1, by rw [ha]; exact r2, hC, hnil, hrn, by rw [ibI]; omega, by simp [hnil], by simp; omega⟩ : (0 ≤ e.Ring ∧ e.Ring < p.AF.n) ∧ (e.Kind = 3 ∨ e.Kind = 4 → 0 ≤ (aA a).Reader ∧ (aA a).Reader < (p.AF.get e.Ring.toNat).Aa) ∧ RC (p.AF.get e.Ring.toNat) B (f.rings.get e.Ring.toNat).x ∧ (f.rings.get e.Ring.toNat).nil = false ∧ Cf (aF f) e.Ring = aR (f.rings.get e.Ring.toNat).x ∧ BQ e.Ring f.rings.n = true ∧
   (((Nat.beq f.rings.n f.rings.n) && true) && (!(f.rings.get e.Ring.toNat).nil)) = true ∧ ((true && true) && ((Nat.beq f.rings.n f.rings.n) && (Nat.blt e.Ring.toNat f.rings.n))) = true)
 have nd2 : ((true && true) && (Nat.beq f.rings.n f.rings.n)) = true := by simp
 rw [← ha] at ht
 refine AK ieI (fun k1 => ?_) fun n1 => AK ieI (fun k2 => ?_) fun n2 => AK ieI (fun k3 => ?_) fun n3 => AK ieI (fun k4 => ?_) fun n4 => AK ieI (fun k13 => ?_) fun n13 => ?_
 · have q := tk (by omega)
   obtain ⟨r1, _⟩ := info q
   have hT := ht q
   unfold Dv at hT
   rw [if_pos k1] at hT
   simp only [Bool.and_eq_true, Bool.not_eq_true', decide_eq_true_eq] at hT
   refine wC (J5 h r1.1 r1.2 hT.1) fun (y : TFa) hy => ?_
   obtain ⟨rs, rfl, hu⟩ := hy
   refine ring q 0 rs DN (vz (by omega)) ?_
   unfold Cn
   rw [if_pos k1]; exact hu
 · have q := tk (by omega)
   obtain ⟨r1, r2, hC, hnil, hrn, d1, d2, d3⟩ := info q
   have hT := ht q
   unfold Dv at hT
   rw [if_neg n1, if_pos k2, hrn] at hT
   refine wN d1 (wN d2 (wC (J4 hC he.tk.1 hT) fun (y : Int × TRr) hy => wN d3 (CV (wN nd2 (ring q 0 _ DN (vz (by omega)) (Lb ⟨false, y.2⟩ rfl (fun j => ?_) rfl hy.1 ?_))))))
   · show (⟨_, _⟩ : Bx TRr) = cond (Nat.beq j _) _ _
     cases Nat.beq j e.Ring.toNat <;> rfl
   · unfold Cn
     rw [if_neg n1, if_pos k2, hrn, ← ha]; exact hy.2
 · have q := tk (by omega)
   obtain ⟨r1, r2, hC, hnil, hrn, d1, d2, d3⟩ := info q
   have hT := ht q
   unfold Dv at hT
   rw [if_neg n1, if_neg n2, if_pos k3, hrn] at hT
   simp only [Bool.and_eq_true, Bool.not_eq_true', decide_eq_true_eq] at hT
   obtain ⟨j0, j1⟩ := r2 (.inl k3)
   have hn := hC.hn
   refine wN d1 (wN d2 (wC (NN hC (j := a.Reader) j0 (by show (aA a).Reader < _; omega) hT.1) fun (y : Int × Int × TRr) hy => wN d3 (CV (wN nd2 (ring q 0 _ DN (vz (by omega)) (Lb ⟨false, y.2.2⟩ rfl (fun j => ?_) rfl hy.1 ?_))))))
   · show (⟨_, _⟩ : Bx TRr) = cond (Nat.beq j _) _ _
     cases Nat.beq j e.Ring.toNat <;> rfl
   · unfold Cn
     rw [if_neg n1, if_neg n2, if_pos k3, hrn, ← ha]; exact hy.2
 · have q := tk (by omega)
   obtain ⟨r1, r2, hC, hnil, hrn, d1, d2, d3⟩ := info q
   have hT := ht q
   unfold Dv at hT
   rw [if_neg n1, if_neg n2, if_neg n3, if_pos k4, hrn] at hT
   obtain ⟨j0, j1⟩ := r2 (.inr k4)
   have hn := hC.hn
   refine wN d1 (wN d2 (wC (J3 hC h.hB (j := a.Reader) j0 (by show (aA a).Reader < _; omega) he.tk.1 hT) fun (y : Int × Int × TRr) hy => wN d3 (CV (wN nd2 (ring q _ _ ?_ ?_ (Lb ⟨false, y.2.2⟩ rfl (fun j => ?_) rfl hy.2.1 ?_))))))
   · rw [hy.1, ← hrn]; exact KC (Pp h.uv _) _
   · rw [hy.1, ← hrn, if_pos k4]
   · show (⟨_, _⟩ : Bx TRr) = cond (Nat.beq j _) _ _
     cases Nat.beq j e.Ring.toNat <;> rfl
   · unfold Cn
     rw [if_neg n1, if_neg n2, if_neg n3, if_pos k4, hrn, ← ha]; exact hy.2.2
 · have q := tk (by omega)
   obtain ⟨r1, r2, hC, hnil, hrn, d1, d2, d3⟩ := info q
   refine wN d1 (wN d2 (wC (MB _) fun (y : Int × TRr) hy => wN d3 (CV (wN nd2 (ring q 0 _ DN (vz (by omega)) (Lb ⟨false, y.2⟩ rfl (fun j => ?_) rfl ?_ ?_))))))
   · show (⟨_, _⟩ : Bx TRr) = cond (Nat.beq j _) _ _
     cases Nat.beq j e.Ring.toNat <;> rfl
   · subst hy; exact ⟨hC.wf.sn, hC.wf.rd, hC.wf.ms, hC.wf.hz, hC.wf.lz, hC.wf.hn, hC.wf.ln⟩
   · subst hy
     unfold Cn
     rw [if_neg n1, if_neg n2, if_neg n3, if_neg n4, if_pos k13, hrn]; rfl
 · have q : BK e.Kind = false := Bool.eq_false_iff.2 fun z => by rw [BE] at z; omega
   refine AK ieI (fun k8 => ?_) fun n8 => AK ieI (fun k10 => ?_) fun n10 => AK ieI (fun k11 => ?_) fun n11 => ?_
   · refine fin 0 f.rings _ _ _ DN (vz n4) hfr h.wf.rw (rgs q) ?_ (rd (by omega)) (en (by omega))
     unfold Ah; simp only; rw [if_pos k8, Tt]; rfl
   · refine fin 0 f.rings _ _ _ DN (vz n4) hfr h.wf.rw (rgs q) (nw n8) ?_ (en (by omega))
     unfold Ah; simp only; rw [if_pos k10]; rfl
   · refine fin 0 f.rings _ _ _ DN (vz n4) hfr h.wf.rw (rgs q) (nw n8) (rd n10) ?_
     unfold Ah; simp only; rw [if_pos k11]
   · exact fin 0 f.rings _ _ _ DN (vz n4) hfr h.wf.rw (rgs q) (nw n8) (rd n10) (en n11)
theorem FC.grow (h : FC p B k f) (hB : B + 1 ≤ 2305843009213693952) (hk : k + 1 ≤ 1000000000) : FC p (B + 1) (k + 1) f :=
 ⟨h.hp, h.inv.mono (by omega), ⟨h.wf.cp, h.wf.tn, fun t ht => (h.wf.tw t ht).grow (by omega), h.wf.rn, h.wf.rw⟩, h.uv, hB, hk⟩
theorem NP (h : FC p B k f) (he : UI e) (hB : B + 1 ≤ 2305843009213693952) (hk : k + 1 ≤ 1000000000) : D_f25.wp (e, f) fun y => y.1 = (Rd (aP p) (aF f) e).1 ∧ aF y.2 = (Rd (aP p) (aF f) e).2 ∧ FC p (B + 1) (k + 1) y.2 := by
 refine of_wp ?_
 simp only [tt_f25]
 refine wC (Gk h he) fun (y : Int) hy => ?_
 subst hy
 unfold Rd
 refine AK (p := Ex (aP p) (aF f) e ≠ 0) (by rw [bnI, ieI]) (fun q => ?_) fun q => wC (Fo h he) fun (y : Bool) hy => ?_
 · rw [if_pos q]; exact ⟨rfl, rfl, h.grow hB hk⟩
 · subst hy
   rw [if_neg q]
   refine AK bnI (fun q2 => ?_) fun q2 => ?_
   · rw [if_pos (by simpa using q2)]; exact ⟨rfl, rfl, h.grow hB hk⟩
   · have hA := Classical.byContradiction q2
     rw [if_neg (by rw [hA]; simp)]
     obtain ⟨F, _, hm⟩ := Dx hA
     exact wC (LF h he F (fun z => Nu (p := aP p) hm F.re z) hB hk) fun (y : TFa) hy => ⟨rfl, hy⟩
end
section
variable {p : TPg} {B : Int} {k : Nat} {f : TFa}
theorem MD (f : TFa) : D_f1c.wp f fun y => y = f.now := Bs rfl
theorem HN (h : FC p B k f) (i : Int) : D_fe.wp (i, f) fun y => (0 ≤ i ∧ i < p.AF.n → y.nil = false ∧ Od (p.AF.get i.toNat) y.x ∧ aR y.x = Cf (aF f) i) ∧ (¬ (0 ≤ i ∧ i < p.AF.n) → y.nil = true) := by
 have hfr := h.wf.rn
 refine Bs ?_
 simp only [tt_fe]
 refine AK ilI (fun q => ⟨fun z => by omega, fun _ => rfl⟩) fun q1 => AK leI (fun q => wN (by simp) ⟨fun z => by omega, fun _ => rfl⟩) fun q2 => wN (by simp) (of_wp ?_)
 have h0 : 0 ≤ i := by omega
 have h1 : i < p.AF.n := by omega
 obtain ⟨hC, hnil, hrn⟩ := h.ring h0 h1
 have hi : i.toNat < p.AF.n := by omega
 have hcp := h.wf.cp
 have hb := h.hB
 simp only [tt_fe_3, Nat.zero_add]
 refine wN (by rw [ibI, hcp.r.n]; omega) (wN (by rw [ibI]; omega) (wN (by simp [hnil]) (wC (GF (p.AF.get i.toNat) _ hC.rg hC.wf) fun (s : TRs) hs => ?_)))
 obtain ⟨e1, e2, e3⟩ := hs
 rw [hcp.r.g _ hi]
 have hI := hC.inv
 rw [← e1] at hI
 refine wC (w_f9 (p.AF.get i.toNat) s hC.rg (Me hC.rg hI (by omega) e2 e3)) fun (z : Bx TRr × Int) hz => wN (by simp [hnil]; omega) (CV (wN (by simp) ?_))
 rcases hz with ⟨_, _, zn, zw, za⟩ | ⟨hno, _⟩
 · exact ⟨fun _ => ⟨zn, zw, by rw [za, e1, hrn]⟩, fun z => absurd ⟨h0, h1⟩ z⟩
 · exact absurd (KI hC.rg hI (by omega)) hno
theorem Tn (h : FC p B k f) : VG (aF f) where
 tn := by have := h.small; have := h.wf.tn; have : (8 : Nat) ≤ maxLen := by decide
          simp [aF]; omega
 rn := by have := h.small; have := h.wf.rn; have : (8 : Nat) ≤ maxLen := by decide
          simp [aF]; omega
 ts t ht := by
  have hk := h.hk
  have : (1000000000 : Nat) ≤ maxLen := by decide
  simp only [aF, List.mem_map] at ht
  obtain ⟨x, hx, rfl⟩ := ht
  obtain ⟨i, hi, rfl⟩ := Sl.C3.1 hx
  have := (h.wf.tw i hi).sb
  simp only [aT, Sl.Bo]; omega
 rs r hr := by
  have : (64 : Nat) ≤ maxLen := by decide
  have hrn := h.wf.rn
  simp only [aF, List.mem_map] at hr
  obtain ⟨x, hx, rfl⟩ := hr
  obtain ⟨i, hi, rfl⟩ := Sl.C3.1 hx
  obtain ⟨hC, _⟩ := h.ring (i := (i : Int)) (Int.natCast_nonneg i) (by omega)
  rw [Int.toNat_natCast] at hC
  have := hC.hn
  have := hC.ln
  simp only [aR, Sl.Bo]; omega
end
theorem To (p : TPg) (hp : IU p) : D_f1i.wp (p, 100) fun y => y = true → p.AF.n ≤ 10 ∧ p.AB.n ≤ 10 ∧ ∀ t, t < p.AB.n → (p.AB.get t).n ≤ 100 := by
 refine of_wp ?_
 simp only [tt_f1i]
 refine AK ilI (fun _ => fun h => by cases h) fun h1 => AK ilI (fun _ => fun h => by cases h) fun h2 => of_wp ?_
 simp only [tt_f1i_3]
 refine Di (tt := tt_f1i_5) (fun x : X_f1i_5 => x.Gv = 100 ∧ x.Gi = p ∧ ∃ k : Nat, x.N5 = k ∧ k ≤ p.AB.n ∧ ∀ t, t < k → (p.AB.get t).n ≤ 100) (fun x => (p.AB.n - x.N5).toNat) (fun _ y => y = true → p.AF.n ≤ 10 ∧ p.AB.n ≤ 10 ∧ ∀ t, t < p.AB.n → (p.AB.get t).n ≤ 100) (fun D x hI hD => ?_) ⟨rfl, rfl, 0, rfl, Nat.zero_le _, fun t ht => by omega⟩
 obtain ⟨m, p', n, i⟩ := x
 obtain ⟨e0, e1, k, e2, hk, hg⟩ := hI
 simp only at e0 e1 e2 hg hD
 subst e0 e1 e2
 simp only [tt_f1i_5]
 refine AK ilI (fun h => ?_) fun h => fun _ => ⟨by omega, by omega, fun t ht => hg t (by omega)⟩
 have hkm : k < p'.AB.n := by omega
 refine wN (Aw hkm) ?_
 rw [Int.toNat_natCast]
 refine AK ilI (fun _ => fun h => by cases h) fun h3 => wN (Aw hkm) ?_
 rw [CH hkm hp.tn]
 refine hD _ ⟨rfl, rfl, k + 1, rfl, hkm, fun t ht => ?_⟩ (by simp only; omega)
 by_cases e : t = k
 · subst e; omega
 · exact hg t (by omega)
theorem law_f38 (p : TPg) (hp : IU p) : D_f38.wp p fun y => y = true ↔ EC (aP p) := by
 refine of_wp ?_
 simp only [tt_f38]
 exact wC (w_f37 p hp) fun (y : Bool) hy => hy
theorem Uy {p q : TPg} (hp : IU p) (hc : Gd q p) (hP : EC (aP p)) {f : TFa} (hF : UL q 0 f) (ha : aF f = Cr (aP q)) : FC p 1 0 f ∧ aF f = Cr (aP p) := by
 have hqp := hc.same
 rw [hqp] at ha
 have h1 := hF.cp
 have cp : Gd f.p p := ⟨⟨h1.r.n.trans hc.r.n, fun i hi => (h1.r.g i (by rw [hc.r.n]; exact hi)).trans (hc.r.g i hi)⟩, h1.rz, h1.n.trans hc.n, fun t ht => by
  have a := h1.t t (by rw [hc.n]; exact ht)
  have b := (hc.t t ht).1
  exact ⟨⟨a.1.n.trans b.n, fun i hi => (a.1.g i (by rw [b.n]; exact hi)).trans (b.g i hi)⟩, a.2⟩⟩
 refine ⟨⟨hp, by rw [ha]; exact Tq hP, ⟨cp, hF.tn.trans hc.n, hF.tw, hF.rn.trans hc.r.n, fun i hi => ?_⟩, by rw [ha]; exact Uw, by decide, by decide⟩, ha⟩
 have := hF.rw i hi
 have hi' : i < p.AF.n := by have := hF.rn; have := hc.r.n; omega
 rw [hc.r.g i hi'] at this
 exact this
theorem Ly {p : TPg} (hp : IU p) : Gd p p := ⟨Cw.refl _, hp.rz, rfl, fun t ht => ⟨Cw.refl _, hp.lz t ht⟩⟩
section
variable {p : TPg} {B : Int} {k : Nat} {f : TFa} {s : TSt}
theorem Q2 (h : FC p B k f) (he : aF f = aS s) (y : TSt) (hy : aS y = aF f ∧ OS k y) : D_fi.wp (y, s) fun z => z = true :=
 w_fi y s (hy.1.trans he) (by rw [hy.1]; exact Tn h)
theorem J2 (h : FC p B k f) : D_f1.wp f fun y => aS y = aF f ∧ OS k y := J6 p k f (by have := h.hk; omega) h.inv.pi h.wf
end
def Oc (x : AU) : EN := ⟨x.Bz, x.Df, x.GY, x.G6⟩
def zE : TEv := ⟨0, 0, 0, 0, 0⟩
def Ub : Option TEv → TEv × Bool
 | some e => (e, true)
 | none => (zE, false)
def An (o : Option TEv) (e : TEv) (b : Bool) : Prop := o = some e ∧ b = true ∨ o = none ∧ b = false
structure TC (t : Sl Int) : Prop where
 n : t.n ≤ maxLen
 u : ∀ i, i < t.n → CD (t.get i)
structure Qo (x : AU) : Prop where
 c : CD x.Df
 d : CD x.GY
theorem TC.mem {t : Sl Int} (h : TC t) : ∀ x ∈ t.L, CD x := fun x hx => by
 obtain ⟨i, hi, rfl⟩ := Sl.C3.1 hx
 exact h.u i hi
section
variable {p : TPg} {B : Int} {k : Nat} {f : TFa} {tape : Sl Int} {x : AU}
theorem FC.U7 (h : FC p B k f) {i : Int} (h0 : 0 ≤ i) (h1 : i < p.AF.n) {r : TRr} (hw : Od (p.AF.get i.toNat) r) (he : aR r = Cf (aF f) i) : RC (p.AF.get i.toNat) B r := by
 have hB := h.hB
 have hR := h.inv.LM (i := i) (by simp [aP]; omega)
 rw [Hi h0 h1, ← he] at hR
 exact ⟨hR.2, hw, hR.1, by omega⟩
theorem Uh (h : FC p B k f) (t : Int) : D_f1g.wp (t, f) fun y => (0 ≤ t ∧ t < p.AB.n → y.2 = 0 ∧ aA y.1 = Al (aP p) (aF f) t) ∧ (¬(0 ≤ t ∧ t < p.AB.n) → y.2 ≠ 0) := by
 have htn := h.wf.tn
 refine Bs ?_
 simp only [tt_f1g]
 refine wC (GG t f) fun (y : Bool) hy => ?_
 refine AK bnI (fun q => ⟨fun hh => absurd (hy.2 (by omega)) q, fun _ => by simp⟩) fun q => ?_
 have hy := hy.1 (Classical.byContradiction q)
 exact wC (GH h hy.1 (by omega)) fun (z : TAk) hz => ⟨fun _ => ⟨rfl, hz⟩, fun hh => absurd ⟨hy.1, by omega⟩ hh⟩
theorem SP (a : TAk) (c fire : Bool) : D_f34.wp (a, (c, fire)) fun y => y = if c = true then (6, true) else if a.Mode = 0 then (5, true) else if a.Mode = 2 ∧ fire = true then (7, true) else (0, false) := by
 refine of_wp ?_
 simp only [tt_f34]
 refine Az (fun q => by rw [if_pos q]; rfl) fun q => ?_
 rw [if_neg q]
 refine AK ieI (fun q => by rw [if_pos q]; rfl) fun q => ?_
 rw [if_neg q]
 refine AK ieI (fun q1 => Az (fun q2 => by rw [if_pos ⟨q1, q2⟩]; rfl) fun q2 => by rw [if_neg fun z => q2 z.2]; rfl) fun q1 => ?_
 rw [if_neg fun z => q1 z.1]; rfl
theorem Q4 (h : FC p B k f) {a : TAk} {pk ck dr : Int} {fire : Bool} {tp : List Int} {none : Bool} {r : TRr} {z : TEv} (ha : aA a = Al (aP p) (aF f) pk) (hk : a.Kind = 1 ∨ a.Kind = 2)
 (hr : aR r = Cf (aF f) a.Ring) (hj : 0 ≤ a.Reader ∧ a.Reader < r.AA.AD.n) (hn : none = Co (Cf (aF f) a.Ring) (aA a)) :
 D_fp_5.wp ⟨fire, a, none, f, ⟨pk, 0, 0, 0, 0⟩, z, r⟩ fun y => An (BW (aP p) (aF f) tp pk ck dr fire) y.1 y.2.1 := by
 refine of_wp ?_
 rw [Kx (by rw [← ha]; exact hk), ← ha]
 simp only [tt_fp_5]
 show TT.wp _ fun (y : RR_fp) => An (if Co (Cf (aF f) a.Ring) (aA a) = true then (if (Cf (aF f) a.Ring).Bj = true then some ⟨pk, 6, a.Ring, 0, 0⟩ else if a.Mode = 0 then some ⟨pk, 5, a.Ring, 0, 0⟩ else if a.Mode = 2 ∧ fire = true then some ⟨pk, 7, a.Ring, 0, 0⟩ else Option.none)
  else if a.Kind = 1 then some ⟨pk, 1, a.Ring, (Cf (aF f) a.Ring).A6, 0⟩ else some ⟨pk, 3, a.Ring, hd (Cf (aF f) a.Ring) a.Reader, 0⟩) y.1 y.2.1
 rw [← hn, ← hr]
 refine Az (fun q => ?_) fun q => ?_
 · rw [if_pos q]
   refine wC (Ce _) fun (y : Bool) hy => ?_
   subst hy
   refine wC (SP a r.closed fire) fun (w : Int × Bool) hw => ?_
   subst hw
   show An (if r.closed = true then _ else _) _ _
   by_cases q1 : r.closed = true
   · rw [if_pos q1, if_pos q1]; exact .inl ⟨rfl, rfl⟩
   rw [if_neg q1, if_neg q1]
   by_cases q2 : a.Mode = 0
   · rw [if_pos q2, if_pos q2]; exact .inl ⟨rfl, rfl⟩
   rw [if_neg q2, if_neg q2]
   by_cases q3 : a.Mode = 2 ∧ fire = true
   · rw [if_pos q3, if_pos q3]; exact .inl ⟨rfl, rfl⟩
   rw [if_neg q3, if_neg q3]; exact .inr ⟨rfl, rfl⟩
 · rw [if_neg q]
   refine wC (Gj a.Reader r hj.1 hj.2) fun (y : Int) hy => ?_
   subst hy
   refine AK ieI (fun q1 => wC (FR r) fun (y : Int) hy => ?_) fun q1 => ?_
   · subst hy; rw [if_pos q1]; exact .inl ⟨rfl, rfl⟩
   · rw [if_neg q1]
     exact .inl ⟨by rw [Lp hj.1 hj.2], rfl⟩
theorem N0 (h : FC p B k f) {a : TAk} {pk ck dr : Int} {fire : Bool} {tp : List Int} (ha : aA a = Al (aP p) (aF f) pk) (hk : a.Kind = 1 ∨ a.Kind = 2) (h0 : 0 ≤ pk) (h1 : pk < p.AB.n) :
 D_fp.wp (a, (⟨pk, 0, 0, 0, 0⟩, (fire, f))) fun y => An (BW (aP p) (aF f) tp pk ck dr fire) y.1 y.2 := by
 have htn := h.wf.tn
 have ek : (Al (aP p) (aF f) pk).Kind = a.Kind := by rw [← ha]; rfl
 have er : (Al (aP p) (aF f) pk).Ring = a.Ring := by rw [← ha]; rfl
 have ed : (Al (aP p) (aF f) pk).Reader = a.Reader := by rw [← ha]; rfl
 obtain ⟨r0, r1, r2⟩ := G4 h.inv (t := pk) (by simp [aF]; omega) rfl (by omega)
 have hs := S2 (p := aP p) (m := aF f) (t := pk)
 rw [er] at r0 r1 r2
 rw [ek, ed] at r2 hs
 have r1 : a.Ring < p.AF.n := by simp [aP] at r1; omega
 rw [Hi r0 r1] at r2
 refine Bs ?_
 simp only [tt_fp]
 refine wC (HN h a.Ring) fun (y : Bx TRr) hy => ?_
 obtain ⟨yn, yw, ya⟩ := hy.1 ⟨r0, r1⟩
 have hC := h.U7 r0 r1 yw ya
 have hn := hC.hn
 have hj : 0 ≤ a.Reader ∧ a.Reader < y.x.AA.AD.n := by
  rcases hk with q | q
  · have := hs q; omega
  · have := r2 (.inl q); omega
 have L5 := fun none hn => Q4 (p := p) (ck := ck) (dr := dr) (tp := tp) (fire := fire) (none := none) (z := ⟨0, 0, 0, 0, 0⟩) h ha hk ya hj hn
 refine wN (by simp [yn]) (wC (D0 a.Reader hj.1 hj.2) fun (em : Bool) he => ?_)
 refine AK ieI (fun q => wC (Ce _) fun (c : Bool) hc => Az (fun qc => ?_) fun qc => wC (FT hC) fun (fu : Bool) hf => ?_) fun q => ?_
 · refine L5 true ?_
   unfold Co; rw [if_pos (show (aA a).Kind = 1 from q), ← ya, ← hc, qc]; rfl
 · refine L5 fu ?_
   unfold Co; rw [if_pos (show (aA a).Kind = 1 from q), ← ya, ← hc, show c = false by simpa using qc, hf]; rfl
 · refine L5 em ?_
   unfold Co; rw [if_neg (show ¬ (aA a).Kind = 1 from q), ← ya, he]; rfl
theorem Tl (h : FC p B k f) (hr : 0 ≤ f.reads) (ht : TC tape) (pk : Int) : D_f17.wp (tape, (⟨pk, 0, 0, 0, 0⟩, f)) fun y => y = if f.ended = true ∨ (tape.n : Int) ≤ f.reads then ⟨pk, 11, 0, 0, 0⟩ else ⟨pk, 10, 0, 0, tape.L.getD f.reads.toNat 0⟩ := by
 have hm := Fw ht.n
 refine Bs ?_
 simp only [tt_f17]
 refine wC (J2 h) fun (y : TSt) hy => ?_
 have e1 : y.Bt = f.ended := congrArg MS.Bt hy.1
 have e2 : y.Reads = f.reads := congrArg MS.Reads hy.1
 have e3 : IntKind.u64.wrap ((tape.n : Nat) : Int) = tape.n := by
  simp only [IntKind.wrap, IntKind.signed, IntKind.bits, Bool.false_and, Bool.false_eq_true, if_false]; omega
 rw [e1, e2, e3]
 refine Az (fun q => by rw [if_pos (.inl q)]; rfl) fun q => AK leI (fun q2 => by rw [if_pos (.inr q2)]; rfl) fun q2 => of_wp ?_
 rw [if_neg (fun z => z.elim q q2)]
 simp only [tt_f17_5, e2]
 refine wN (by rw [ibI]; omega) ?_
 rw [G1 tape hr (by omega)]
 rfl
end
theorem VL {p : MP} {m : MS} {tp : List Int} {pk ck dr : Int} {fire : Bool} {e : TEv} {b : Bool} (h0 : 0 ≤ pk) (h1 : pk < m.AB.length) (hc : BW p m tp pk ck dr fire = some e) (hb : b = BZ p m e) : An (Ch p m tp pk ck dr fire) e b := by
 unfold Ch
 rw [if_neg (by omega), hc]
 simp only
 subst hb
 cases q : BZ p m e
 · exact .inr ⟨by simp, rfl⟩
 · exact .inl ⟨by simp, rfl⟩
theorem UF {p : MP} {m : MS} {tp : List Int} {pk ck dr : Int} {fire : Bool} {e : TEv} (hc : BW p m tp pk ck dr fire = none) : An (Ch p m tp pk ck dr fire) e false := by
 refine .inr ⟨?_, rfl⟩
 unfold Ch
 split
 · rfl
 rw [hc]
theorem UE {o : Option TEv} {e : TEv} {b : Bool} (h : An o e b) : (if b = true then (e, true) else (zE, false)) = Ub o := by
 rcases h with ⟨h1, h2⟩ | ⟨h1, h2⟩ <;> subst h1 h2 <;> rfl
section
variable {p : TPg} {B : Int} {k : Nat} {f : TFa} {tape : Sl Int} {x : AU}
theorem N3 (h : FC p B k f) (ht : TC tape) (hx : Qo x) (h0 : 0 ≤ x.Bz) (h1 : x.Bz < p.AB.n) {z e : TEv} (hc : BW (aP p) (aF f) tape.L x.Bz x.Df x.GY x.G6 = some e) :
 D_ff_26.wp ⟨f, z, e⟩ fun y => An (JZ (aP p) tape.L (aF f) (Oc x)) y.1 y.2.1 := by
 have htn := h.wf.tn
 refine of_wp ?_
 simp only [tt_ff_26]
 have hl : x.Bz < (aF f).AB.length := by simp [aF]; omega
 have hu := OJ h.inv h.hB (h.QF h0 h1) hx.d ht.mem h0 hl hc
 exact wC (Fo h ⟨hu.1, hu.2⟩) fun (y : Bool) hy => VL h0 hl hc hy
theorem Q0 (h : FC p B k f) (hr : 0 ≤ f.reads) (ht : TC tape) (hx : Qo x) (h0 : 0 ≤ x.Bz) (h1 : x.Bz < p.AB.n) {a : TAk} (ha : aA a = Al (aP p) (aF f) x.Bz) :
 D_ff.wp (tape, (a, (x, f))) fun y => An (JZ (aP p) tape.L (aF f) (Oc x)) y.1 y.2 := by
 have htn := h.wf.tn
 have hl : x.Bz < (aF f).AB.length := by simp [aF]; omega
 have ek : (Al (aP p) (aF f) x.Bz).Kind = a.Kind := by rw [← ha]; rfl
 have er : (Al (aP p) (aF f) x.Bz).Ring = a.Ring := by rw [← ha]; rfl
 have htop := T7 h.inv (t := x.Bz) (by omega)
 rw [ek] at htop
 have L := fun e hc => N3 (x := x) (z := ⟨0, 0, 0, 0, 0⟩) (e := e) h ht hx h0 h1 hc
 have hcl := hx.c
 have hto : ∀ e b, a.Kind = 1 ∨ a.Kind = 2 → An (BW (aP p) (aF f) tape.L x.Bz x.Df x.GY x.G6) e b → An (JZ (aP p) tape.L (aF f) (Oc x)) e b := fun e b q hh => by
  show An (Ch (aP p) (aF f) tape.L x.Bz x.Df x.GY x.G6) _ _
  rw [NQ h.inv h.hB h0 hl (by rw [ek]; exact q)]; exact hh
 refine Bs ?_
 simp only [tt_ff]
 refine AK ieI (fun q => ?_) fun n0 => AK ieI (fun q => ?_) fun n1 => AK ieI (fun q => ?_) fun n2 => AK ieI (fun q => ?_) fun n10 => AK ieI (fun q => ?_) fun n11 => AK ieI (fun q => ?_) fun n3 =>
  AK ieI (fun q => ?_) fun n4 => AK ieI (fun q => ?_) fun n5 => AK ieI (fun q => ?_) fun n6 => AK ieI (fun q => ?_) fun n7 => AK ieI (fun q => ?_) fun n8 => AK ieI (fun q => ?_) fun n9 => by omega
 · show An (Ch (aP p) (aF f) tape.L x.Bz x.Df x.GY x.G6) _ _
   exact UF (by unfold BW; simp only; rw [if_pos (by rw [ek]; exact q)])
 · exact wC (N0 (ck := x.Df) (dr := x.GY) (tp := tape.L) h ha (.inl q) h0 h1) fun (y : TEv × Bool) hy => hto _ _ (.inl q) hy
 · exact wC (N0 (ck := x.Df) (dr := x.GY) (tp := tape.L) h ha (.inr q) h0 h1) fun (y : TEv × Bool) hy => hto _ _ (.inr q) hy
 · exact L _ (by simp [BW, ← ha, aA, q])
 · exact L _ (by simp [BW, ← ha, aA, q])
 · obtain ⟨r0, r1, _⟩ := G4 h.inv (t := x.Bz) (by omega) rfl (by omega)
   rw [er] at r0 r1
   have r1 : a.Ring < p.AF.n := by simp [aP] at r1; omega
   refine wC (HN h a.Ring) fun (y : Bx TRr) hy => ?_
   obtain ⟨yn, yw, ya⟩ := hy.1 ⟨r0, r1⟩
   refine wC (Q' := fun z => z = y.x.AA.tail) (of_wp (wN (by simp [yn]) rfl)) fun (z : Int) hz => L _ ?_
   subst hz
   have : (Cf (aF f) a.Ring).A6 = y.x.AA.tail := by rw [← ya]; rfl
   simp [BW, ← ha, aA, q, this]
 · refine wC (MD f) fun (y : Int) hy => L _ ?_
   subst hy
   have : Int.tmod x.Df 1048576 = x.Df % 1048576 := Int.tmod_eq_emod_of_nonneg hcl.1
   simp [BW, ← ha, aA, q, this, show (aF f).ED = f.now from rfl]
 · exact L _ (by simp [BW, ← ha, aA, q])
 · refine wC (Tl h hr ht x.Bz) fun (y : TEv) hy => L _ ?_
   subst hy
   simp only [BW, ← ha, aA, q, show (aF f).Bt = f.ended from rfl, show (aF f).Reads = f.reads from rfl, Sl.Bo]
   simp only [Int.reduceEq, or_self, if_false, if_true]
   split <;> rfl
 · exact L _ (by simp [BW, ← ha, aA, q])
 · exact L _ (by simp [BW, ← ha, aA, q])
 · exact L _ (by simp [BW, ← ha, aA, q])
theorem SS (h : FC p B k f) (hr : 0 ≤ f.reads) (ht : TC tape) (hx : Qo x) : D_f28.wp (tape, (x, f)) fun y => y = Ub (JZ (aP p) tape.L (aF f) (Oc x)) := by
 have htn := h.wf.tn
 refine Bs ?_
 simp only [tt_f28]
 refine wC (Uh h x.Bz) fun (y : TAk × Int) hy => ?_
 by_cases hin : 0 ≤ x.Bz ∧ x.Bz < p.AB.n
 · obtain ⟨y2, ya⟩ := hy.1 hin
   refine AK (p := y.2 ≠ 0) (by rw [bnI, ieI]) (fun q => absurd y2 q) fun _ => wC (Q0 h hr ht hx hin.1 hin.2 ya) fun (w : TEv × Bool) hw => ?_
   rw [← UE hw]
   refine AK bnI (fun q => by rw [if_neg q]; rfl) fun q => ?_
   rw [if_pos (Classical.byContradiction q)]
   rfl
 · refine AK (p := y.2 ≠ 0) (by rw [bnI, ieI]) (fun _ => ?_) fun q => absurd (hy.2 hin) q
   have : JZ (aP p) tape.L (aF f) (Oc x) = none := by
    show Ch _ _ _ _ _ _ _ = none
    unfold Ch
    rw [if_pos (by simp [aF, Oc]; omega)]
   rw [this]; rfl
def U5 (P : MP) (m : MS) (o : Option TEv) : MS := match o with | some e => Ah P m e | none => m
theorem M0 {P : MP} {m : MS} {e : TEv} (h : 0 ≤ m.Reads) : 0 ≤ (Ah P m e).Reads := by
 show 0 ≤ (if e.Kind = 10 then IntKind.u64.wrap (m.Reads + 1) else m.Reads)
 split
 · simp only [IntKind.wrap, IntKind.signed, IntKind.bits, Bool.false_and, Bool.false_eq_true, if_false]; omega
 · exact h
theorem Pz (h : FC p B k f) (hr : 0 ≤ f.reads) (ht : TC tape) (hx : Qo x) (hB : B + 1 ≤ 2305843009213693952) (hk : k + 1 ≤ 1000000000) :
 D_f2q.wp (tape, (x, f)) fun y => (y.1, y.2.1) = Ub (JZ (aP p) tape.L (aF f) (Oc x)) ∧ aF y.2.2 = U5 (aP p) (aF f) (JZ (aP p) tape.L (aF f) (Oc x)) ∧ FC p (B + 1) (k + 1) y.2.2 ∧ 0 ≤ y.2.2.reads := by
 have htn := h.wf.tn
 refine of_wp ?_
 simp only [tt_f2q]
 refine wC (SS h hr ht hx) fun (y : TEv × Bool) hy => ?_
 cases ho : JZ (aP p) tape.L (aF f) (Oc x) with
 | none =>
   rw [ho] at hy; subst hy
   exact Az (fun q => by cases q) fun _ => ⟨rfl, rfl, h.grow hB hk, hr⟩
 | some e =>
   rw [ho] at hy; subst hy
   have hal := C9 (p := aP p) (m := aF f) ho
   have hin : x.Bz < p.AB.n := by have := hal.2.2; simp [aF, Oc] at this; omega
   have h0 : 0 ≤ x.Bz := hal.2.1
   have hu := Li h.inv h.hB (h.QF h0 hin) hx.d ht.mem ho
   refine Az (fun _ => ?_) fun q => absurd rfl q
   refine wC (NP h ⟨hu.1, hu.2⟩ hB hk) fun (w : Int × TFa) hw => ?_
   obtain ⟨_, w2, w3⟩ := hw
   have w2 : aF w.2 = (Rd (aP p) (aF f) e).2 := w2
   rw [K6 hal.1] at w2
   refine ⟨rfl, w2, w3, ?_⟩
   have : w.2.reads = (Ah (aP p) (aF f) e).Reads := congrArg MS.Reads w2
   show 0 ≤ w.2.reads
   rw [this]
   exact M0 hr
end

theorem VX {n : Nat} (h : n < 100000000) : IntKind.i64.wrap ((n : Int) + 1) = ((n + 1 : Nat) : Int) := by rw [wrap64] <;> omega
theorem So (s : Sl TEv) (e : TEv) (b : Bool) : (Sl.mk b (s.n + 1) (fun i => TEv.mk (cond (Nat.blt i s.n) (s.get i).Thread e.Thread) (cond (Nat.blt i s.n) (s.get i).Kind e.Kind) (cond (Nat.blt i s.n) (s.get i).Ring e.Ring) (cond (Nat.blt i s.n) (s.get i).AG e.AG) (cond (Nat.blt i s.n) (s.get i).Value e.Value))).L = s.L ++ [e] := by
 rw [← Rw]
 refine QW rfl fun i => ?_
 simp only [snoc]
 cases Nat.blt i s.n <;> rfl
theorem Nb {P : MP} {tp : List Int} {l : List EN} {k : Nat} {x : EN} (h : l[k]? = some x) (r : WR) : BP P tp (l.take (k + 1)) r = Bm P tp (BP P tp (l.take k) r) x := by
 unfold BP
 rw [List.take_add_one, h, List.foldl_append]
 rfl
theorem TJ {P : MP} {tp : List Int} {r : WR} (x : EN) (h : 0 ≤ r.Idle ∧ 0 ≤ r.Ck) : 0 ≤ (Bm P tp r x).Idle ∧ 0 ≤ (Bm P tp r x).Ck := by
 unfold Bm
 split
 · exact h
 · split <;> simp only <;> omega
theorem Oz {P : MP} {tp : List Int} (l : List EN) : ∀ r : WR, 0 ≤ r.Idle ∧ 0 ≤ r.Ck → 0 ≤ (BP P tp l r).Idle ∧ 0 ≤ (BP P tp l r).Ck := by
 induction l with
 | nil => intro r h; exact h
 | cons x l ih => intro r h; exact ih _ (TJ x h)
structure Tc (l : Sl AU) : Prop where
 n : l.n ≤ maxLen
 e : ∀ i, i < l.n → Qo (l.get i)
def Gh (l : Sl AU) : List EN := l.L.map Oc
theorem Pm {l : Sl AU} {k : Nat} (h : k < l.n) : (Gh l)[k]? = some (Oc (l.get k)) := by
 unfold Gh
 rw [List.getElem?_map, Sl.Dy _ h]; rfl
@[simp] theorem FV (l : Sl AU) : (Gh l).length = l.n := by simp [Gh]
section
variable {f : TFa}
theorem Tm (t : Int) (f : TFa) : D_f1b.wp (t, f) fun y => y = !H2 (aF f) t := by
 refine Bs ?_
 simp only [tt_f1b, Nat.zero_add]
 refine wC (GG t f) fun (y : Bool) hy => ?_
 refine Az (fun q => ?_) fun q => ?_
 · obtain ⟨h0, h1⟩ := hy.1 q
   refine wN (by rw [ibI]; exact ⟨h0, h1⟩) (wN (by simp) (wN (by simp) ?_))
   show Ae (f.threads.get t.toNat).Status 0 = !H2 (aF f) t
   unfold H2
   rw [HW h0 h1, show ((aF f).AB.length : Int) = f.threads.n by simp [aF]]
   refine Cl ?_
   simp only [ieI, Bool.not_eq_true', decide_eq_false_iff_not]
   show (f.threads.get t.toNat).Status = 0 ↔ ¬(t < 0 ∨ (f.threads.n : Int) ≤ t ∨ (f.threads.get t.toNat).Status ≠ 0)
   omega
 · show false = !H2 (aF f) t
   have : H2 (aF f) t = true := by
    unfold H2
    rw [show ((aF f).AB.length : Int) = f.threads.n by simp [aF]]
    refine decide_eq_true ?_
    have : ¬ (0 ≤ t ∧ t < f.threads.n) := fun z => q (hy.2 z)
    omega
   rw [this]; rfl
end
structure RZ (p : TPg) (tp : List Int) (l : List EN) (y : AY) : Prop where
 ev : y.As.L = (BP (aP p) tp l (IW (Cr (aP p)))).Ev
 st : aS y.State = (BP (aP p) tp l (IW (Cr (aP p)))).St
 id : y.Idle = (BP (aP p) tp l (IW (Cr (aP p)))).Idle
 wt : y.Ck = (BP (aP p) tp l (IW (Cr (aP p)))).Ck
 fc : ∃ f, FC p (1 + l.length) l.length f ∧ aF f = (BP (aP p) tp l (IW (Cr (aP p)))).St ∧ 0 ≤ f.reads
 ok : OS l.length y.State
 ee : ∀ i, i < y.As.n → UI (y.As.get i)
theorem SR {p q : TPg} (hp : IU p) (hq : Gd q p) {tape : Sl Int} {script : Sl AU} (ht : TC tape) (hs : Tc script) :
 D_fc.wp (q, (tape, script)) fun y => (EC (aP p) ∧ script.n ≤ 65536 ∧ tape.n ≤ 65536 → y.2 = 0 ∧ RZ p tape.L (Gh script) y.1) ∧ (¬ EC (aP p) → y.2 = 1 ∧ y.1 = ⟨⟨true, 0, fun _ => ⟨0, 0, 0, 0, 0⟩⟩, ⟨⟨true, 0, fun _ => ⟨0, 0, 0, 0, 0, fun _ => 0, ⟨true, 0, fun _ => 0⟩⟩⟩, ⟨true, 0, fun _ => ⟨0, ⟨true, 0, fun _ => 0⟩, false, ⟨true, 0, fun _ => ⟨0, 0, 0⟩⟩⟩⟩, 0, 0, false⟩, 0, 0⟩) ∧
  (EC (aP p) ∧ 65536 < script.n → y.2 = 4 ∧ y.1 = ⟨⟨true, 0, fun _ => ⟨0, 0, 0, 0, 0⟩⟩, ⟨⟨true, 0, fun _ => ⟨0, 0, 0, 0, 0, fun _ => 0, ⟨true, 0, fun _ => 0⟩⟩⟩, ⟨true, 0, fun _ => ⟨0, ⟨true, 0, fun _ => 0⟩, false, ⟨true, 0, fun _ => ⟨0, 0, 0⟩⟩⟩⟩, 0, 0, false⟩, 0, 0⟩) := by
 refine of_wp ?_
 simp only [tt_fc]
 refine wC (w_f12 q (hq.IU hp) 0) fun (y : Bx TFa × Int) hy => ?_
 have hqs : aP q = aP p := hq.same
 rcases hy with ⟨hP, y2, yn, yF, ya⟩ | ⟨hno, y2, yn⟩
 rotate_left
 · rw [hqs] at hno
   refine AK (p := y.2 ≠ 0) (by rw [bnI, ieI]) (fun _ => ⟨fun z => absurd z.1 hno, fun _ => ⟨rfl, rfl⟩, fun z => absurd z.1 hno⟩) fun z => absurd (by omega) z
 rw [hqs] at hP
 refine AK (p := y.2 ≠ 0) (by rw [bnI, ieI]) (fun z => absurd y2 z) fun _ => AK ilI (fun z => ⟨fun w => by omega, fun w => absurd hP w, fun _ => ⟨rfl, rfl⟩⟩) fun h1 => AK ilI (fun z => ⟨fun w => by omega, fun w => absurd hP w, fun w => by omega⟩) fun h2 => of_wp ?_
 simp only [tt_fc_6]
 obtain ⟨hFC, ya⟩ := Uy hp hq hP yF ya
 have hsn : script.n ≤ 65536 := by omega
 refine wN (by simp [yn]) ?_
 refine Di (tt := tt_fc_8) (fun x : X_fc_8 => x.Ba = tape ∧ x.KQ = script ∧ x.MW = script.n ∧ ∃ k : Nat, x.Ij = k ∧ k ≤ script.n ∧ FC p (1 + k) k x.Rb ∧ 0 ≤ x.Rb.reads ∧ aF x.Rb = (BP (aP p) tape.L ((Gh script).take k) (IW (Cr (aP p)))).St ∧
  x.CP.As.L = (BP (aP p) tape.L ((Gh script).take k) (IW (Cr (aP p)))).Ev ∧ x.CP.Idle = (BP (aP p) tape.L ((Gh script).take k) (IW (Cr (aP p)))).Idle ∧ x.CP.Ck = (BP (aP p) tape.L ((Gh script).take k) (IW (Cr (aP p)))).Ck ∧ ∀ i, i < x.CP.As.n → UI (x.CP.As.get i))
  (fun x => (script.n - x.Ij).toNat) (fun _ y => (EC (aP p) ∧ script.n ≤ 65536 ∧ tape.n ≤ 65536 → y.2 = 0 ∧ RZ p tape.L (Gh script) y.1) ∧ (¬ EC (aP p) → y.2 = 1 ∧ y.1 = ⟨⟨true, 0, fun _ => ⟨0, 0, 0, 0, 0⟩⟩, ⟨⟨true, 0, fun _ => ⟨0, 0, 0, 0, 0, fun _ => 0, ⟨true, 0, fun _ => 0⟩⟩⟩, ⟨true, 0, fun _ => ⟨0, ⟨true, 0, fun _ => 0⟩, false, ⟨true, 0, fun _ => ⟨0, 0, 0⟩⟩⟩⟩, 0, 0, false⟩, 0, 0⟩) ∧
    (EC (aP p) ∧ 65536 < script.n → y.2 = 4 ∧ y.1 = ⟨⟨true, 0, fun _ => ⟨0, 0, 0, 0, 0⟩⟩, ⟨⟨true, 0, fun _ => ⟨0, 0, 0, 0, 0, fun _ => 0, ⟨true, 0, fun _ => 0⟩⟩⟩, ⟨true, 0, fun _ => ⟨0, ⟨true, 0, fun _ => 0⟩, false, ⟨true, 0, fun _ => ⟨0, 0, 0⟩⟩⟩⟩, 0, 0, false⟩, 0, 0⟩)) (fun D x hI hD => ?_)
  ⟨rfl, rfl, rfl, 0, rfl, Nat.zero_le _, hFC, by have : y.1.x.reads = (Cr (aP p)).Reads := congrArg MS.Reads ya; rw [this]; exact Int.le_refl _, ya, rfl, rfl, rfl, fun i hi => absurd hi (Nat.not_lt_zero i)⟩
 obtain ⟨t', s', q35, q36, m6, m10, f⟩ := x
 obtain ⟨e0, e1, e2, k, e3, hk, hF, hr, hst, hev, hid, hwt, hee⟩ := hI
 simp only at e0 e1 e2 e3 hF hr hst hev hid hwt hee hD
 subst e0 e1 e2 e3
 simp only [tt_fc_8]
 have hcnt := Ih (p := aP p) (tape := t'.L) ((Gh s').take k) (IW (Cr (aP p)))
 have hnn := Oz (P := aP p) (tp := t'.L) ((Gh s').take k) (IW (Cr (aP p))) ⟨Int.le_refl _, Int.le_refl _⟩
 rw [← hev, ← hid, ← hwt] at hcnt
 rw [← hid, ← hwt] at hnn
 have hcnt : (m10.As.n : Int) + m10.Idle + m10.Ck = k := by
  simp only [Sl.Bo, IW, List.length_nil, List.length_take, FV] at hcnt
  omega
 refine AK ilI (fun h => ?_) fun h => of_wp ?_
 · have hkm : k < s'.n := by omega
   refine wN (Aw hkm) ?_
   rw [Int.toNat_natCast]
   have hx := hs.e k hkm
   have hsn := Nb (P := aP p) (tp := t'.L) (Pm hkm) (IW (Cr (aP p)))
   refine wC (Pz hF hr ht hx (by omega) (by omega)) fun (w : TEv × Bool × TFa) hw => ?_
   obtain ⟨w1, w2, w3, w4⟩ := hw
   rw [show (1 : Int) + k + 1 = 1 + ((k + 1 : Nat) : Int) by omega] at w3
   have hd : ∀ m10' : AY, (m10'.As.L = (BP (aP p) t'.L ((Gh s').take (k + 1)) (IW (Cr (aP p)))).Ev ∧ aF w.2.2 = (BP (aP p) t'.L ((Gh s').take (k + 1)) (IW (Cr (aP p)))).St ∧ m10'.Idle = (BP (aP p) t'.L ((Gh s').take (k + 1)) (IW (Cr (aP p)))).Idle ∧ m10'.Ck = (BP (aP p) t'.L ((Gh s').take (k + 1)) (IW (Cr (aP p)))).Ck) → (∀ i, i < m10'.As.n → UI (m10'.As.get i)) →
    (D_fc_16 D).wp ⟨t', s', (s'.n : Int), (k : Int), m6, m10', w.2.2⟩ _ := fun m10' hh h5 => of_wp (by
    simp only [tt_fc_16, CH hkm hs.n]
    exact hD _ ⟨rfl, rfl, rfl, k + 1, rfl, hkm, w3, w4, hh.2.1, hh.1, hh.2.2.1, hh.2.2.2, h5⟩ (by simp only; omega))
   unfold Bm at hsn
   rw [← hst] at hsn
   cases ho : JZ (aP p) t'.L (aF f) (Oc (s'.get k)) with
   | some e =>
     rw [ho] at w1 w2 hsn
     have w11 : w.1 = e := congrArg Prod.fst w1
     have w12 : w.2.1 = true := congrArg Prod.snd w1
     simp only at hsn
     refine Az (fun _ => wN (by simp [room]; omega) ?_) fun z => absurd w12 z
     have hin : (s'.get k).Bz < p.AB.n := by have := (C9 (p := aP p) (m := aF f) ho).2.2; have := hF.wf.tn; simp [aF, Oc] at *; omega
     have hu := Li hF.inv hF.hB (hF.QF (C9 (p := aP p) (m := aF f) ho).2.1 hin) hx.d ht.mem ho
     refine hd _ ⟨?_, ?_, ?_, ?_⟩ ?_
     · rw [hsn]; simp only
       rw [So, hev, w11]
     · rw [hsn, w2]; rfl
     · rw [hsn]; exact hid
     · rw [hsn]; exact hwt
     · intro i hi
       simp only at hi ⊢
       by_cases c : i < m10.As.n
       · rw [IJ c]; exact hee i c
       · have : i = m10.As.n := by omega
         rw [this, OM, w11]; exact ⟨hu.1, hu.2⟩
   | none =>
     rw [ho] at w1 w2 hsn
     have w12 : w.2.1 = false := congrArg Prod.snd w1
     have w2 : aF w.2.2 = aF f := w2
     simp only at hsn
     refine Az (fun z => by rw [w12] at z; cases z) fun _ => wC (Tm _ _) fun (r : Bool) hr' => ?_
     rw [show aF (TFa.mk w.2.2.p w.2.2.threads w.2.2.rings w.2.2.now w.2.2.reads w.2.2.ended) = aF f from w2] at hr'
     have hsel : (Oc (s'.get k)).Bz = (s'.get k).Bz := rfl
     rw [hsel] at hsn
     refine Az (fun z => ?_) fun z => ?_
     · have hi : H2 (aF f) (s'.get k).Bz = false := by rw [hr'] at z; simpa using z
       rw [if_neg (by rw [hi]; simp)] at hsn
       refine hd _ ⟨by rw [hsn]; exact hev, by rw [hsn, w2, hst], by rw [hsn]; exact hid, ?_⟩ hee
       rw [hsn]; simp only
       rw [wrap64 (by omega) (by omega), hwt]
     · have hi : H2 (aF f) (s'.get k).Bz = true := by rw [hr'] at z; simpa using z
       rw [if_pos hi] at hsn
       refine hd _ ⟨by rw [hsn]; exact hev, by rw [hsn, w2, hst], ?_, by rw [hsn]; exact hwt⟩ hee
       rw [hsn]; simp only
       rw [wrap64 (by omega) (by omega), hid]
 · have e : k = s'.n := by omega
   subst e
   simp only [tt_fc_17]
   have et : (Gh s').take s'.n = Gh s' := List.take_of_length_le (by simp)
   rw [et] at hst hev hid hwt
   refine wC (J2 hF) fun (w : TSt) hw => ⟨fun _ => ⟨rfl, ?_⟩, fun z => absurd hP z, fun z => by omega⟩
   exact ⟨hev, hw.1.trans hst, hid, hwt, ⟨f, by rw [FV]; exact hF, hst, hr⟩, by rw [FV]; exact hw.2, hee⟩
theorem MF : D_f2v.ev 1000 PUnit.unit = some true := by kernel_rfl
theorem SQ : D_f2v.wp PUnit.unit fun y => y = true := ⟨true, D_f2v.H9 1000 _ _ MF, rfl⟩
theorem Ug (p : TPg) (hp : IU p) : D_f3g.wp p fun y => y = true → EC (aP p) := by
 refine of_wp ?_
 simp only [tt_f3g]
 refine wC (To p hp) fun (y : Bool) _ => Az (fun _ => wC (law_f38 p hp) fun (z : Bool) hz => hz.1) fun _ => fun h => by cases h



section
variable {p : TPg} {B : Int} {k : Nat} {f : TFa} {s : TSt}
theorem Q9 (h : DD (aP p) B (aS s)) (hB : B ≤ 2305843009213693952) (hn : s.ED < 9223372036854775808) : PO p s := by
 have tn : s.AB.n = p.AB.n := by have := h.nt; simpa [aS, aP] using this
 have rn : s.AF.n = p.AF.n := by have := h.nr; simpa [aS, aP] using this
 refine ⟨tn, rn, hn, fun i hi => ?_, fun t ht => ?_⟩
 · have hR := h.LM (i := (i : Int)) (by simp [aP]; omega)
   rw [Hi (Int.natCast_nonneg i) (by omega), KH (Int.natCast_nonneg i) (by omega), Int.toNat_natCast] at hR
   have := hR.1.tb
   change (s.AF.get i).A6 < B at this
   exact ⟨KI hR.2 hR.1 (by omega), by omega⟩
 · have hT := h.MI (t := (t : Int)) (by simp [aS]; exact ht)
   rw [IG (Int.natCast_nonneg t) (by omega), Rp (Int.natCast_nonneg t) (by omega), Int.toNat_natCast] at hT
   have hp : t < p.AB.n := by omega
   have e1 : (aS s).AB[t]? = some (aT (s.AB.get t)) := by
    have := Rn (s := aS s) (t := (t : Int)) (by simp [aS]; exact ht)
    rwa [Rp (Int.natCast_nonneg t) (by omega), Int.toNat_natCast] at this
   have e2 : (aP p).AB[t]? = some (p.AB.get t).L := by
    unfold aP
    simp only [List.getElem?_map]
    rw [Sl.Dy _ hp]; rfl
   refine ⟨hT, fun q => ?_, fun q => ?_⟩
   · obtain ⟨_, ⟨r0, r1⟩, _⟩ := L7 h.pi hp hT (by omega)
     have := h.p1 t _ e1 q
     change (s.AB.get t).AG < (Cf (aS s) (s.AB.get t).Ring).A6 at this
     rw [KH r0 (by omega)] at this
     exact this
   · obtain ⟨⟨a0, a1⟩, ⟨r0, r1⟩, hK⟩ := L7 h.pi hp hT (by omega)
     obtain ⟨k0, k1⟩ := hK q
     have := h.p2 t _ _ e2 e1 q
     change (s.AB.get t).AG < hd (Cf (aS s) (s.AB.get t).Ring) (gI (p.AB.get t).L (s.AB.get t).At).K at this
     rw [Jb _ a0 a1, KH r0 (by omega)] at this
     have hR := h.LM (i := (s.AB.get t).Ring) (by simp [aP]; omega)
     rw [Hi r0 r1, KH r0 (by omega)] at hR
     have hl := hR.1.rd
     simp only [K9, Sl.Bo] at hl
     have e3 : hd (K9 (s.AF.get (s.AB.get t).Ring.toNat)) ((p.AB.get t).get (s.AB.get t).At.toNat).K = (s.AF.get (s.AB.get t).Ring.toNat).Aj.get ((p.AB.get t).get (s.AB.get t).At.toNat).K.toNat := G1 _ k0 (by omega) 0
     rw [e3] at this
     exact this
theorem UY (h : FC p B k f) (e : aS s = aF f) (ho : OS k s) (hr : 0 ≤ f.reads) : okS k s := by
 have hsm := h.small
 have h8 : (8 : Nat) ≤ maxLen := by decide
 have hi : DD (aP p) B (aS s) := by rw [e]; exact h.inv
 have tn : s.AB.n = p.AB.n := by have := hi.nt; simpa [aS, aP] using this
 have rn : s.AF.n = p.AF.n := by have := hi.nr; simpa [aS, aP] using this
 have hb := h.hB
 refine ⟨by omega, by omega, ho.ts, fun i hii => ?_, hi.n0, ?_⟩
 · have hR := hi.LM (i := (i : Int)) (by simp [aP]; omega)
   rw [Hi (Int.natCast_nonneg i) (by omega), KH (Int.natCast_nonneg i) (by omega), Int.toNat_natCast] at hR
   exact Me hR.2 hR.1 (by omega) (ho.rs i hii).1 (ho.rs i hii).2
 · have : s.Reads = f.reads := congrArg MS.Reads e
   omega
theorem SW (h : FC p B k f) (e : aS s = aF f) (ho : OS k s) (hr : 0 ≤ f.reads) (hn : f.now < 9223372036854775808) : D_f4.wp (p, s) fun y => y.2 = 0 ∧ y.1.nil = false ∧ FC p B k y.1.x ∧ aF y.1.x = aF f := by
 have hk := h.hk
 have hnow : s.ED = f.now := congrArg MS.ED e
 refine (w_f4 p s k (by omega) h.hp h.inv.pi (UY h e ho hr)).mono fun y hy => ?_
 rcases hy with ⟨_, y2, yn, yF, ya⟩ | ⟨hno, _⟩
 · have ya := ya.trans e
   exact ⟨y2, yn, ⟨h.hp, by rw [ya]; exact h.inv, yF, by rw [ya]; exact h.uv, h.hB, h.hk⟩, ya⟩
 · exact absurd (Q9 (by rw [e]; exact h.inv) h.hB (by omega)) hno
end
theorem Rs {P : MP} {tp : List Int} {r : WR} {x : EN} : (Bm P tp r x).St.ED ≤ r.St.ED + 1048576 := by
 unfold Bm
 split
 · rename_i e he
   exact PY (C9 he).1
 · split <;> simp only <;> omega
theorem TL {P : MP} {tp : List Int} (l : List EN) : ∀ r : WR, (BP P tp l r).St.ED ≤ r.St.ED + 1048576 * l.length := by
 induction l with
 | nil => intro r; simp [BP]
 | cons x l ih =>
   intro r
   have h1 := ih (Bm P tp r x)
   have h2 := Rs (P := P) (tp := tp) (r := r) (x := x)
   show (BP P tp l (Bm P tp r x)).St.ED ≤ _
   simp only [List.length_cons]
   omega
theorem RZ.load {p : TPg} {tp : List Int} {l : List EN} {y : AY} (h : RZ p tp l y) (hl : l.length ≤ 65536) :
 D_f4.wp (p, y.State) fun z => z.2 = 0 ∧ z.1.nil = false ∧ FC p (1 + l.length) l.length z.1.x ∧ aF z.1.x = (BP (aP p) tp l (IW (Cr (aP p)))).St ∧ 0 ≤ z.1.x.reads ∧ z.1.x.now < 9223372036854775808 := by
 obtain ⟨f, hF, hf, hr⟩ := h.fc
 have hn := TL (P := aP p) (tp := tp) l (IW (Cr (aP p)))
 have e1 : f.now = (BP (aP p) tp l (IW (Cr (aP p)))).St.ED := congrArg MS.ED hf
 have e2 : (IW (Cr (aP p))).St.ED = 0 := rfl
 rw [← e1, e2] at hn
 obtain ⟨z, a, b, c, d, e⟩ := SW hF (h.st.trans hf.symm) h.ok hr (by omega)
 have e3 : z.1.x.reads = f.reads := congrArg MS.Reads e
 have e4 : z.1.x.now = f.now := congrArg MS.ED e
 exact ⟨z, a, b, c, d, e.trans hf, by omega, by omega⟩
theorem VQ (p : TPg) (script more : Sl AU) (hp : IU p) (hs : Tc script) (hm : Tc more) (hsum : (script.n : Int) + more.n < 9223372036854775808) : D_f3i.wp (p, (script, more)) fun y => y = true := by
 refine of_wp ?_
 simp only [tt_f3i]
 have aw : ∀ {k : Bool → TT Tryz.prog R_f3i} {Q}, (k true).wp Q → (TT.call con_f2v PUnit.unit k).wp Q := fun h => wC SQ fun (y : Bool) hy => by subst hy; exact h
 refine aw (Az (fun h => by simp at h) fun _ => ?_)
 refine wC (Ug p hp) fun (y : Bool) hy => AK bnI (fun _ => aw rfl) fun hf => AK ilI (fun _ => aw rfl) fun hl2 => of_wp ?_
 have hP := hy (Classical.byContradiction hf)
 have big : (65536 : Nat) ≤ maxLen := by decide
 rw [wrap64 (by omega) (by omega)] at hl2
 have ht : TC (⟨true, 0, fun _ => 0⟩ : Sl Int) := ⟨Nat.zero_le _, fun i hi => absurd hi (Nat.not_lt_zero i)⟩
 simp only [tt_f3i_3]
 refine wC (SR hp (Ly hp) ht hs) fun (a : AY × Int) ha => ?_
 obtain ⟨a2, hA⟩ := ha.1 ⟨hP, by omega, by simp⟩
 refine wC (hA.load (by rw [FV]; omega)) fun (m : Bx TFa × Int) hm' => ?_
 obtain ⟨_, mn, mF, mst, mr, mnow⟩ := hm'
 rw [FV] at mF
 have hbst := hA.st
 generalize hWa : BP (aP p) (⟨true, 0, fun _ => 0⟩ : Sl Int).L (Gh script) (IW (Cr (aP p))) = Wa at mst hbst
 have htn := mF.wf.tn
 have h8 := mF.small
 have htape : (⟨true, 0, fun _ => 0⟩ : Sl Int).L = [] := rfl
 refine wN (by simp [mn]) ?_
 refine Di (tt := tt_f3i_8) (fun x : X_f3i_8 => x.VM = more ∧ x.C1 = p.AB.n ∧ x.IV = a.1 ∧ x.VR = m.1.x ∧ ∃ k : Nat, x.VU = k ∧ k ≤ p.AB.n ∧ ∀ j : Nat, j < k → Ch (aP p) Wa.St [] j 0 0 true = none)
  (fun x => (p.AB.n - x.VU).toNat) (fun _ y => y = true) (fun D x hI hD => ?_) ⟨rfl, rfl, rfl, rfl, 0, rfl, Nat.zero_le _, fun j hj => absurd hj (Nat.not_lt_zero j)⟩
 obtain ⟨mo, q51, q52, m7, f⟩ := x
 obtain ⟨e0, e1, e2, e3, k, e4, hk, hno⟩ := hI
 simp only at e0 e1 e2 e3 e4 hD
 subst e0 e1 e2 e3 e4
 simp only [tt_f3i_8]
 refine AK ilI (fun h => ?_) fun h => of_wp ?_
 · have hkm : k < p.AB.n := by omega
   refine wC (SS (x := ⟨(k : Int), 0, 0, true⟩) mF mr ht ⟨DN, DN⟩) fun (y : TEv × Bool) hy => ?_
   cases ho : Ch (aP p) Wa.St [] k 0 0 true with
   | some e =>
     have : JZ (aP p) (⟨true, 0, fun _ => 0⟩ : Sl Int).L (aF m.1.x) (Oc ⟨(k : Int), 0, 0, true⟩) = some e := by rw [mst]; exact ho
     rw [this] at hy
     subst hy
     exact Az (fun _ => rfl) fun z => absurd rfl z
   | none =>
     have : JZ (aP p) (⟨true, 0, fun _ => 0⟩ : Sl Int).L (aF m.1.x) (Oc ⟨(k : Int), 0, 0, true⟩) = none := by rw [mst]; exact ho
     rw [this] at hy
     subst hy
     refine Az (fun z => by cases z) fun _ => ?_
     rw [VX (by omega)]
     refine hD _ ⟨rfl, rfl, rfl, rfl, k + 1, rfl, hkm, fun j hj => ?_⟩ (by simp only; omega)
     by_cases c : j = k
     · rw [c]; exact ho
     · exact hno j (by omega)
 · have hstuck := UG (p := aP p) (m := Wa.St) (b := 1 + script.n) (by rw [← mst]; exact mF.inv) (by omega) (by rw [← mst]; show m.1.x.now < _; omega) (fun t h0 h1 => by
    have h1 : t < p.AB.n := by rw [← mst] at h1; simp [aF] at h1; omega
    have := hno t.toNat (by omega)
    rwa [show ((t.toNat : Nat) : Int) = t by omega] at this)
   simp only [tt_f3i_14]
   refine Di (tt := tt_f3i_15) (fun x : X_f3i_15 => x.VV = mo ∧ x.VW = mo.n ∧ x.IV = a.1 ∧ ∃ k : Nat, x.VT = k ∧ k ≤ mo.n ∧ FC p (1 + script.n + k) (script.n + k) x.VR ∧ 0 ≤ x.VR.reads ∧ aF x.VR = Wa.St)
    (fun x => (mo.n - x.VT).toNat) (fun _ y => y = true) (fun D x hI hD => ?_) ⟨rfl, rfl, rfl, 0, rfl, Nat.zero_le _, by rw [show (1 : Int) + script.n + ((0 : Nat) : Int) = 1 + script.n by omega]; exact mF, mr, mst⟩
   obtain ⟨q64, q65, q66, m7', f⟩ := x
   obtain ⟨e0, e1, e2, j, e3, hj, hF, hr, hst⟩ := hI
   simp only at e0 e1 e2 e3 hF hr hst hD
   subst e0 e1 e2 e3
   simp only [tt_f3i_15]
   refine AK ilI (fun h => ?_) fun h => of_wp ?_
   · have hjm : j < q64.n := by omega
     refine wN (Aw hjm) ?_
     rw [Int.toNat_natCast]
     refine wC (Pz hF hr ht (hm.e j hjm) (by omega) (by omega)) fun (w : TEv × Bool × TFa) hw => ?_
     obtain ⟨w1, w2, w3, w4⟩ := hw
     have hnone : JZ (aP p) (⟨true, 0, fun _ => 0⟩ : Sl Int).L (aF f) (Oc (q64.get j)) = none := by rw [hst]; exact hstuck _ _ _ _
     rw [hnone] at w1 w2
     have w12 : w.2.1 = false := congrArg Prod.snd w1
     refine Az (fun z => by rw [w12] at z; cases z) fun _ => ?_
     rw [CH hjm hm.n]
     exact hD _ ⟨rfl, rfl, rfl, j + 1, rfl, hjm, by rw [show (1 : Int) + script.n + ((j + 1 : Nat) : Int) = 1 + script.n + j + 1 by omega]; exact w3, w4, w2.trans hst⟩ (by simp only; omega)
   · simp only [tt_f3i_21]
     exact wC (J2 hF) fun (w : TSt) hw => wC (Q2 hF (hst.trans hbst.symm) w hw) fun (v : Bool) hv => hv
namespace Sz
open Go.ChangeShapes Go.WideShapes Go.ChangeAt Go.RowKit
section
variable {H : Type} {enc : TypeId × Value → H} {P : Program}
def QJ (P : Program) (t : TypeId) (d : DataW H) : Prop := ∀ n ∈ d.weights P t, n ≤ reachBytes
theorem Mi {C : Checked} {os : Os} {f : FuncId} {fn : Func} {s : ChangeSpec} {conds : List PathCond} {fresh handsOn : Bool} {tb : TypeId}
 (own : ownKnob C.prog.godebug = none) (started : os.Started) (noInit : C.prog.inits.idxOf? f = none) (hfn : C.prog.funcs[f]? = some fn)
 (witness : ∃ (w : World) (tape : Tape) (i : Input), w.os = os ∧ (w.forCall tape i).Shaped C.prog ∧ i.vars = [] ∧ Input.okWide C.prog (w.forCall tape i) .any w.heap.size f i ∧
   s.pre6 enc C.prog fn conds false (w.forCall tape i).memory i.args ∧ ({} : Assume).holds C.prog (lone (Frame.enter C.prog f i.args .normal) [] (w.forCall tape i)))
 (hl : laidOutB C.prog = true) (hm : mapsRowed C.prog = true) (hz : ∀ t e, t < C.prog.types.size → C.prog.underlying t = some (.slice e) → 0 < C.prog.cellsOf e)
 (hp : (fn.params.toList.all fun t => decide (t < C.prog.types.size)) = true) (hvars : s.vars = []) (hr : fn.resultTypes = #[tb]) (htb : C.prog.underlying tb = some .bool)
 (hs : ∀ ds : List (DataW H), ds.length = fn.params.toList.length → s.fn H (ds ++ []) = { results := [.lit (.bool true)], args := ds })
 (F7 : ∀ (W : World) (base : Nat) (args : Array Value) (ds : List (DataW H)) (ps : List MemPlace),
   (∀ (j : Nat) t v, fn.params[j]? = some t → args[j]? = some v → Value.okWide C.prog W .any base t v) →
   DataW.TrodAll enc C.prog W 0 (fun _ => true) true fn.params.toList args.toList ds ps → (∀ (j : Nat) t d, fn.params.toList[j]? = some t → ds[j]? = some d → QJ C.prog t d) →
   Calls C.prog f args W fun e w' => e = .returned (.bool true) ∧ Below W.heap.size W w') :
 ReturnsInHanded {} C os f .any (s.pre6 enc C.prog fn conds false) (s.post enc C.prog fn false fresh handsOn false) := by
 refine returnsInHanded_of_change_sized own started noInit hfn witness ?_
 intro W base args ds gs before hval hW _ hsz _
 have hW' := hW
 obtain ⟨p, q, hA, hV, rfl, _, _⟩ := hW
 rw [hvars] at hV
 obtain ⟨rfl, rfl⟩ := trodVars_none hV
 simp only [List.append_nil] at hW'
 refine (F7 W base args ds p hval hA fun j t d ht hd n hn => ?_).mono fun e W' ⟨he, hB⟩ => ⟨_, he, ?_⟩
 · have hj : j < fn.params.toList.length := (List.getElem?_eq_some_iff.1 ht).1
   have := List.all_eq_true.1 hsz n (DataW.weights_mem_each (j := j) (t := t) (d := d) (by rw [List.getElem?_append_left hj]; exact ht) (by rw [List.append_nil]; exact hd) n hn)
   simpa using this
 · exact Lf hl hm hz (fun t ht => of_decide_eq_true (List.all_eq_true.1 hp t ht)) hvars hr htb (hs ds (Go.trodAll_length hA).2) hW' hA hB
theorem JA {W : World} {t e : TypeId} {fuel : Nat} {cs : List Value} {x : DataW H × List MemPlace} {tok : Option TypeId} {s n : Nat} {nil : Bool} {get : Nat → V} {fp : AE} (ht : P.underlying t = some (.slice e))
 (hd : DataW.trod enc P W 0 (fun _ => true) true fuel t cs = some x) (h2 : AH (old W) W Au (.sl tok s nil n get) cs fp) (hz : QJ P t x.1) : n * P.bytesOf e ≤ reachBytes := by
 simp only [AH] at h2
 obtain ⟨ad, cap', hv, _⟩ := h2
 rcases Go.Deep.open_slice ht hd with ⟨e1, _⟩ | ⟨a, len, cap, m, k, D, Pl, e1, _, _, _, _, e2, _⟩
 · rw [hv] at e1
   have := (Value.slice.inj (List.cons.inj e1).1).2.1
   subst this
   rw [Nat.zero_mul]; exact Nat.zero_le _
 · rw [hv] at e1
   have e3 := (Value.slice.inj (List.cons.inj e1).1).2.1
   have e4 : x.1 = _ := congrArg Prod.fst e2
   unfold QJ at hz
   rw [e4] at hz
   have := hz ((len + (m - len)) * P.bytesOf e) (by simp [DataW.weights, ht])
   refine Nat.le_trans (Nat.mul_le_mul_right _ ?_) this
   omega
theorem VO {W : World} {base : Nat} {t e : TypeId} {v : Value} {d : DataW H} {ps : List MemPlace} {tok : Option TypeId} {s n : Nat} {nil : Bool} {get : Nat → V} (ht : P.underlying t = some (.slice e))
 (hok : Value.okWide P W .any base t v) (hd : DataW.Trod enc P W 0 (fun _ => true) true t v d ps) (hb : Am (old W) W Au (.sl tok s nil n get) v none_) (hz : QJ P t d) : n * P.bytesOf e ≤ reachBytes := by
 obtain ⟨fuel, hd⟩ := hd
 rw [OI ht W base v hok] at hd
 have h1 : BD (old W) W Au (.sl tok s nil n get) v none_ := hb
 exact JA (x := (d, ps)) ht hd (h1.2 rfl) hz
end
end Sz
def ok_TRg (x : TRg) : Prop := (fun n => (Lit.int .i64 n).wf = true) x.Kind ∧ (fun n => (Lit.int .i64 n).wf = true) x.Ee ∧ (fun n => (Lit.int .i64 n).wf = true) x.Aa ∧ True
def fl_TRg_0 : Field := (F4 Tryz.prog 87).toList.getD 0 default
def fl_TRg_1 : Field := (F4 Tryz.prog 87).toList.getD 1 default
def fl_TRg_2 : Field := (F4 Tryz.prog 87).toList.getD 2 default
theorem op_TRg : DT Tryz.prog 87 e_TRg ok_TRg :=
 DT.map (Ez (fs := F4 Tryz.prog 87) (l := fl_TRg_0 :: fl_TRg_1 :: fl_TRg_2 :: []) (by kernel_rfl) (by kernel_rfl) (by kernel_rfl)
  (Bf (u := 3) (s := 1) (by kernel_rfl) (by kernel_rfl) (by kernel_rfl) (CF (k := .i64) (by kernel_rfl)) (Bf (u := 3) (s := 1) (by kernel_rfl) (by kernel_rfl) (by kernel_rfl) (CF (k := .i64) (by kernel_rfl)) (Bf (u := 3) (s := 1) (by kernel_rfl) (by kernel_rfl) (by kernel_rfl) (CF (k := .i64) (by kernel_rfl)) HB)))) (fun x => ⟨x.1, x.2.1, x.2.2.1⟩) (fun _ => rfl) (fun _ h => h)
def ok_TIn (x : TIn) : Prop := (fun n => (Lit.int .i64 n).wf = true) x.Op ∧ (fun n => (Lit.int .i64 n).wf = true) x.A ∧ (fun n => (Lit.int .i64 n).wf = true) x.B ∧ (fun n => (Lit.int .i64 n).wf = true) x.C ∧ (fun n => (Lit.int .i64 n).wf = true) x.D ∧ (fun n => (Lit.int .u64 n).wf = true) x.K ∧ True
def fl_TIn_0 : Field := (F4 Tryz.prog 124).toList.getD 0 default
def fl_TIn_1 : Field := (F4 Tryz.prog 124).toList.getD 1 default
def fl_TIn_2 : Field := (F4 Tryz.prog 124).toList.getD 2 default
def fl_TIn_3 : Field := (F4 Tryz.prog 124).toList.getD 3 default
def fl_TIn_4 : Field := (F4 Tryz.prog 124).toList.getD 4 default
def fl_TIn_5 : Field := (F4 Tryz.prog 124).toList.getD 5 default
theorem op_TIn : DT Tryz.prog 124 e_TIn ok_TIn :=
 DT.map (Ez (fs := F4 Tryz.prog 124) (l := fl_TIn_0 :: fl_TIn_1 :: fl_TIn_2 :: fl_TIn_3 :: fl_TIn_4 :: fl_TIn_5 :: []) (by kernel_rfl) (by kernel_rfl) (by kernel_rfl)
  (Bf (u := 3) (s := 1) (by kernel_rfl) (by kernel_rfl) (by kernel_rfl) (CF (k := .i64) (by kernel_rfl)) (Bf (u := 3) (s := 1) (by kernel_rfl) (by kernel_rfl) (by kernel_rfl) (CF (k := .i64) (by kernel_rfl)) (Bf (u := 3) (s := 1) (by kernel_rfl) (by kernel_rfl) (by kernel_rfl) (CF (k := .i64) (by kernel_rfl)) (Bf (u := 3) (s := 1) (by kernel_rfl) (by kernel_rfl) (by kernel_rfl) (CF (k := .i64) (by kernel_rfl)) (Bf (u := 3) (s := 1) (by kernel_rfl) (by kernel_rfl) (by kernel_rfl) (CF (k := .i64) (by kernel_rfl)) (Bf (u := 36) (s := 1) (by kernel_rfl) (by kernel_rfl) (by kernel_rfl) (CF (k := .u64) (by kernel_rfl)) HB))))))) (fun x => ⟨x.1, x.2.1, x.2.2.1, x.2.2.2.1, x.2.2.2.2.1, x.2.2.2.2.2.1⟩) (fun _ => rfl) (fun _ h => h)
def ok_TPg (x : TPg) : Prop := (Md ok_TRg) x.AF ∧ (Md (Md ok_TIn)) x.AB ∧ True
def fl_TPg_0 : Field := (F4 Tryz.prog 25).toList.getD 0 default
def fl_TPg_1 : Field := (F4 Tryz.prog 25).toList.getD 1 default
theorem op_TPg : DT Tryz.prog 25 e_TPg ok_TPg :=
 DT.map (Ez (fs := F4 Tryz.prog 25) (l := fl_TPg_0 :: fl_TPg_1 :: []) (by kernel_rfl) (by kernel_rfl) (by kernel_rfl)
  (Bf (u := 22) (s := 1) (by kernel_rfl) (by kernel_rfl) (by kernel_rfl) (Ej (e := 87) (s := 3) (d_TRg .undef) (by kernel_rfl) (by kernel_rfl) (by decide) (op_TRg)) (Bf (u := 23) (s := 1) (by kernel_rfl) (by kernel_rfl) (by kernel_rfl) (Ej (e := 116) (s := 1) (dsl_TIn .undef) (by kernel_rfl) (by kernel_rfl) (by decide) (Ej (e := 124) (s := 6) (d_TIn .undef) (by kernel_rfl) (by kernel_rfl) (by decide) (op_TIn))) HB))) (fun x => ⟨x.1, x.2.1⟩) (fun _ => rfl) (fun _ h => h)
def DZ (x : AU) : Prop := (fun n => (Lit.int .i64 n).wf = true) x.Bz ∧ (fun n => (Lit.int .u64 n).wf = true) x.Df ∧ (fun n => (Lit.int .u64 n).wf = true) x.GY ∧ (fun _ => True) x.G6 ∧ True
def Jf : Field := (F4 Tryz.prog 41).toList.getD 0 default
def Je : Field := (F4 Tryz.prog 41).toList.getD 1 default
def Jd : Field := (F4 Tryz.prog 41).toList.getD 2 default
def Jc : Field := (F4 Tryz.prog 41).toList.getD 3 default
theorem LP : DT Tryz.prog 41 Bn DZ :=
 DT.map (Ez (fs := F4 Tryz.prog 41) (l := Jf :: Je :: Jd :: Jc :: []) (by kernel_rfl) (by kernel_rfl) (by kernel_rfl)
  (Bf (u := 3) (s := 1) (by kernel_rfl) (by kernel_rfl) (by kernel_rfl) (CF (k := .i64) (by kernel_rfl)) (Bf (u := 36) (s := 1) (by kernel_rfl) (by kernel_rfl) (by kernel_rfl) (CF (k := .u64) (by kernel_rfl)) (Bf (u := 36) (s := 1) (by kernel_rfl) (by kernel_rfl) (by kernel_rfl) (CF (k := .u64) (by kernel_rfl)) (Bf (u := 4) (s := 1) (by kernel_rfl) (by kernel_rfl) (by kernel_rfl) (O5 (by kernel_rfl)) HB))))) (fun x => ⟨x.1, x.2.1, x.2.2.1, x.2.2.2.1⟩) (fun _ => rfl) (fun _ h => h)
theorem LR : OV Tryz.prog 25 e_TPg ok_TPg :=
 Mm (fs := F4 Tryz.prog 25) (by kernel_rfl) op_TPg (fun _ => rfl) (fun _ => rfl)
theorem Ua {p : TPg} (h : ok_TPg p) : IU p := by
 obtain ⟨⟨rz, rn, rr⟩, ⟨_, tn, tt⟩, _⟩ := h
 refine ⟨rn, tn, fun t ht => (tt t ht).2.1, fun t ht k hk => ?_, rz, fun t ht => (tt t ht).1⟩
 obtain ⟨_, a, b, c, d, k, _⟩ := (tt t ht).2.2 k hk
 have a := wf_i64 a; have b := wf_i64 b; have c := wf_i64 c; have d := wf_i64 d
 exact ⟨wf_u64 k, by omega, by omega, by omega, by omega⟩
theorem Te {x : AU} (h : DZ x) : Qo x := by
 obtain ⟨_, c, d, _⟩ := h
 exact ⟨wf_u64 c, wf_u64 d⟩
theorem VP : OV Tryz.prog 27 A5 (Md DZ) :=
 PJ (OI (e := 41) (by kernel_rfl)) (Ej (e := 41) (s := 4) (Bw .undef) (by kernel_rfl) (by kernel_rfl) (by decide) LP) (fun _ => rfl) (fun _ => rfl)
theorem Pv {l : Sl AU} (h : Md DZ l) : Tc l := ⟨h.2.1, fun i hi => Te (h.2.2 i hi)⟩

open Go.ChangeShapes Go.WideShapes Go.ChangeAt Go.RowKit
theorem Tryz.own : ownKnob Tryz.prog.godebug = none := by kernel_rfl
theorem Tryz.laidOut : laidOutB Tryz.prog = true := by kernel_rfl
theorem Tryz.U6 : mapsRowed Tryz.prog = true := by kernel_rfl
theorem Tryz.full : ∀ t e, t < Tryz.prog.types.size → Tryz.prog.underlying t = some (.slice e) → 0 < Tryz.prog.cellsOf e := slices_full_of Tryz.prog (by kernel_rfl)
def NF : Value := .agg #[.slice none 0 0, .slice none 0 0]
open Go.ChangeShapes Go.WideShapes Go.ChangeAt Go.RowKit
end Go.Proofs.YtiamaibincaihaaGreat
end
