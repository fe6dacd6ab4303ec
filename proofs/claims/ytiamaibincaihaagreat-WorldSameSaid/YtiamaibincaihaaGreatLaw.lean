/- For every program, tape and script: the events of a run, made into a script, are run again to the same state; what was handed in reads as it did. No conditions. -/
import Derived.Test.YtiamaibincaihaaGreatGC
import Derived.Test.YtiamaibincaihaaGreatRows
noncomputable section
namespace Go.Proofs.YtiamaibincaihaaGreat
open Go Go.Vm Go.Proofs
set_option maxRecDepth 10000
set_option maxRecDepth 100000
theorem GZ {n : Nat} (h : n ≤ maxLen) : (n : Int) ≤ 9223372036854775807 := by have := (by decide : maxLen ≤ 9223372036854775807); omega
theorem w_f3j (x : Int) : D_f3j.wp x fun y => y = true ↔ 1 ≤ x ∧ x ≤ 17 := by
 refine of_wp ?_
 simp only [tt_f3j, TT.wp, leI, ilI, ieI, bnI, ibI, Bool.and_eq_true, Bool.false_eq_true, true_iff, false_iff]
 omega
theorem w_f3l (x : TIn) : D_f3l.wp x fun y => y = true ↔ 15 ≤ x.Op ∧ x.Op ≤ 17 := by
 refine of_wp ?_
 simp only [tt_f3l, TT.wp, leI, ilI, ieI, bnI, ibI, Bool.and_eq_true, Bool.false_eq_true, true_iff, false_iff]
 omega
def MO (x : Int) : TCl × Bool :=
 if x = 1 then (⟨7, 0, 0, 0, 18446744073709551615⟩, true)
 else if x = 2 ∨ x = 23 then (⟨7, 7, 0, 0, 0⟩, true)
 else if x = 15 then (⟨0, 0, 0, 0, 256⟩, true)
 else if x = 16 ∨ x = 17 then (⟨7, 0, 0, 0, 256⟩, true)
 else if x = 18 then (⟨7, 7, 7, 2, 0⟩, true)
 else if x = 19 then (⟨7, 7, 7, 2, 7⟩, true)
 else if x = 20 then (⟨0, 0, 7, 0, 0⟩, true)
 else if x = 21 ∨ x = 22 ∨ x = 24 then (⟨7, 0, 0, 0, 0⟩, true)
 else if x = 25 then (⟨0, 0, 0, 0, 0⟩, true)
 else (⟨7, 7, 7, 0, 0⟩, decide (1 ≤ x ∧ x ≤ 17))
theorem w_f23 (x : Int) : D_f23.wp x fun y => y = MO x := by
 have e : ∀ z, D_f23_24.wp (⟨x, z⟩ : X_f23_24) fun y => y = (⟨7, 7, 7, 0, 0⟩, decide (1 ≤ x ∧ x ≤ 17)) := by
  intro z
  refine of_wp ?_
  show (tt_f23_24 ⟨x, z⟩).wp _
  simp only [tt_f23_24]
  refine wC (w_f3j x) fun (y : Bool) hy => ?_
  have : y = decide (1 ≤ x ∧ x ≤ 17) := by rw [Bool.eq_iff_iff, decide_eq_true_eq]; exact hy
  subst this
  rfl
 refine of_wp ?_
 simp only [tt_f23, TT.wp, ieI, Rv, MO]
 refine ⟨fun h => by simp [h], fun h1 => ⟨fun h => by simp [h], fun h2 => ⟨fun h => by simp [h], fun h3 => ⟨fun h => by simp [h], fun h4 => ⟨fun h => by simp [h], fun h5 => ⟨fun h => by simp [h], fun h6 => ⟨fun h => by simp [h], fun h7 =>
  ⟨fun h => by simp [h], fun h8 => ⟨fun h => by simp [h], fun h9 => ⟨fun h => by simp [h], fun h10 => ⟨fun h => by simp [h], fun h11 => ⟨fun h => by simp [h], fun h12 => ⟨fun h => by simp [h], fun h13 => ?_⟩⟩⟩⟩⟩⟩⟩⟩⟩⟩⟩⟩⟩
 simp only [h1, h2, h3, h4, h5, h6, h7, h8, h9, h10, h11, h12, h13, if_false, or_self]
 exact e _
theorem P6 {i : TIn} (h0 : 0 ≤ i.K) (h1 : i.K < 18446744073709551616) :
 (MO i.Op).2 = true ∧ (0 ≤ i.A ∧ i.A ≤ (MO i.Op).1.a) ∧ (0 ≤ i.B ∧ i.B ≤ (MO i.Op).1.b) ∧ (0 ≤ i.C ∧ i.C ≤ (MO i.Op).1.c) ∧ (0 ≤ i.D ∧ i.D ≤ (MO i.Op).1.d) ∧ i.K ≤ (MO i.Op).1.k ↔ B9 i = true := by
 unfold MO B9
 simp only
 by_cases e1 : i.Op = 1
 · simp [e1]; omega
 by_cases e2 : i.Op = 2 ∨ i.Op = 23
 · simp only [e1, e2, if_false, if_true, Bool.and_eq_true, decide_eq_true_eq, true_and]; omega
 by_cases e3 : i.Op = 15
 · simp [e3]; omega
 by_cases e4 : i.Op = 16 ∨ i.Op = 17
 · have : ¬ (3 ≤ i.Op ∧ i.Op ≤ 14) := by omega
   simp only [e1, e2, e3, e4, this, if_false, if_true, Bool.and_eq_true, decide_eq_true_eq, true_and]; omega
 by_cases e5 : i.Op = 18
 · simp [e5]; omega
 by_cases e6 : i.Op = 19
 · simp [e6]; omega
 by_cases e7 : i.Op = 20
 · simp [e7]; omega
 by_cases e8 : i.Op = 21 ∨ i.Op = 22 ∨ i.Op = 24
 · have : ¬ (3 ≤ i.Op ∧ i.Op ≤ 14) := by omega
   simp only [e1, e2, e3, e4, e5, e6, e7, e8, this, if_false, if_true, Bool.and_eq_true, decide_eq_true_eq, true_and]; omega
 by_cases e9 : i.Op = 25
 · simp [e9]; omega
 by_cases e10 : 3 ≤ i.Op ∧ i.Op ≤ 14
 · have : 1 ≤ i.Op ∧ i.Op ≤ 17 := by omega
   simp only [e1, e2, e3, e4, e5, e6, e7, e8, e9, e10, this, if_false, if_true, Bool.and_eq_true, decide_eq_true_eq, true_and, and_self]; omega
 · have : ¬ (1 ≤ i.Op ∧ i.Op ≤ 17) := by omega
   simp only [e1, e2, e3, e4, e5, e6, e7, e8, e9, e10, this, if_false, decide_false, Bool.false_eq_true, false_and]
def UQ (i : TIn) : Prop := (0 ≤ i.K ∧ i.K < 18446744073709551616) ∧ i.A < 9223372036854775808 ∧ i.B < 9223372036854775808 ∧ i.C < 9223372036854775808 ∧ i.D < 9223372036854775808
theorem w_f3k (i : TIn) (h : UQ i) : D_f3k.wp i fun y => y = true ↔ B9 i = true := by
 refine of_wp ?_
 simp only [tt_f3k]
 refine wC (w_f23 i.Op) fun (y : TCl × Bool) hy => ?_
 subst hy
 rw [← P6 h.1.1 h.1.2]
 generalize MO i.Op = m
 obtain ⟨⟨a, b, c, d, k⟩, ok⟩ := m
 cases ok <;> simp only [TT.wp, leI, ilI, ieI, bnI, ibI, Bool.and_eq_true, Bool.false_eq_true, true_iff, false_iff, false_imp_iff, not_false_eq_true, true_imp_iff, not_true_eq_false, true_and, and_true, false_and]
 · omega
theorem w_f25 (c : TRg) : D_f25.wp c fun y => y = true ↔ BB c = true := by
 refine of_wp ?_
 have e : D_f25_3.wp (⟨c⟩ : X_f25_3) fun y => y = true ↔ (c.Kind = 1 ∧ c.AR = 1 ∨ c.Kind = 2 ∧ 1 ≤ c.AR ∧ c.AR ≤ 8) := by
  refine of_wp ?_
  simp only [tt_f25_3, TT.wp, leI, ilI, ieI, bnI, ibI, Bool.and_eq_true, Bool.false_eq_true, true_iff, false_iff]
  omega
 simp only [tt_f25, TT.wp, leI, ilI, ieI, bnI, ibI, Bool.and_eq_true, Bool.false_eq_true, true_iff, false_iff, BB, decide_eq_true_eq]
 refine ⟨fun h => by omega, fun h1 => ⟨fun h => by omega, fun h2 => e.mono fun y hy => by rw [hy]; omega⟩⟩
theorem w_f3h (x : Int) : D_f3h.wp x fun y => y = true ↔ 18 ≤ x ∧ x ≤ 20 := by
 refine of_wp ?_
 simp only [tt_f3h, TT.wp, leI, ilI, ieI, bnI, ibI, Bool.and_eq_true, Bool.false_eq_true, true_iff, false_iff]
 omega
structure Ib (p : TPg) : Prop where
 rn : p.AF.n ≤ maxLen
 tn : p.AB.n ≤ maxLen
 ln : ∀ t, t < p.AB.n → (p.AB.get t).n ≤ maxLen
 ins : ∀ t, t < p.AB.n → ∀ k, k < (p.AB.get t).n → UQ ((p.AB.get t).get k)
 rz : p.AF.nil = true → p.AF.n = 0
 lz : ∀ t, t < p.AB.n → (p.AB.get t).nil = true → (p.AB.get t).n = 0
def aP (p : TPg) : MP := ⟨p.AF.L, p.AB.L.map Sl.L⟩
theorem G8 {α : Type} (s : Sl α) {i : Int} (h0 : 0 ≤ i) (h : i < s.n) (d : α) : s.L.getD i.toNat d = s.get i.toNat := by
 have : i.toNat < s.n := by omega
 rw [List.getD, Sl.D2 _ this]; rfl
theorem w_f3q (p : TPg) (i : TIn) (n : Nat) (hi : UQ i) (hn : n ≤ maxLen) (hr : ∀ c ∈ p.AF.L, BB c = true) : D_f3q.wp (p, (i, (n : Int))) fun y => y = Dp p.AF.L i n := by
 refine of_wp ?_
 have hn := GZ hn
 have hw : IntKind.u64.wrap (n : Int) = n := Au (by omega) (by omega)
 simp only [tt_f3q, hw]
 refine wC (w_f3k i hi) fun (y : Bool) hy => ?_
 simp only [TT.wp, leI, ilI, ieI, bnI, ibI, Bool.and_eq_true, Bool.false_eq_true, true_iff, false_iff, hy]
 refine ⟨fun h => by simp [Dp, h], fun h => ?_⟩
 have hR : B9 i = true := by simpa using h
 have hf := BK hR
 have hrd : 0 ≤ i.C → i.C < p.AF.n → IntKind.u64.wrap (p.AF.get i.C.toNat).AR = (p.AF.L.getD i.C.toNat ⟨0, 0, 0⟩).AR := fun h0 h1 => by
  rw [G8 _ h0 h1]
  have := GC (hr _ (Sl.Ct.2 ⟨i.C.toNat, by omega, rfl⟩))
  exact Au (by omega) (by omega)
 have e : Dp p.AF.L i n = if 15 ≤ i.Op ∧ i.Op ≤ 17 ∧ (n : Int) < i.K then 5 else if 18 ≤ i.Op ∧ i.Op ≤ 20 ∧ (p.AF.n : Int) ≤ i.C then 7 else if i.Op = 19 ∧ (p.AF.L.getD i.C.toNat ⟨0, 0, 0⟩).AR ≤ i.K then 7 else 0 := by
  simp only [Dp, hR, Bool.true_eq_false, if_false, Sl.Bb]
 rw [e]
 refine Qs (w_f3l i) fun (y : Bool) hj => ?_
 simp only [hj]
 refine ⟨fun h => ⟨fun h1 => by rw [if_pos ⟨h.1, h.2, h1⟩], fun h1 => ?_⟩, fun h => ?_⟩
 all_goals
  refine Qs (w_f3h i.Op) fun (y : Bool) hg => ?_
  simp only [hg]
  refine ⟨fun h2 => ⟨fun h3 => ?_, fun h3 => ⟨fun h4 => ⟨?_, fun h5 => ?_, fun h5 => ?_⟩, fun h4 => ?_⟩⟩, fun h2 => ⟨fun h4 => by omega, fun h4 => ?_⟩⟩
  all_goals (repeat' split) <;> first | rfl | (exfalso; omega) | omega
def J9 (rs : List TRg) (l : Sl TIn) : Prop := ∀ k, k < l.n → Dp rs (l.get k) l.n = 0
theorem l_f3_16 (p : TPg) (hp : Ib p) (hr : ∀ c ∈ p.AF.L, BB c = true) (t : Nat) (ht : t < p.AB.n) (D11 : AU X_f3_11 R_f3) (Q : R_f3 → Prop)
 (hbad : ∀ y : Int × Int × Int, y.2.2 ≠ 0 → ¬ J9 p.AF.L (p.AB.get t) → Q y) (hgood : J9 p.AF.L (p.AB.get t) → D11.wp ⟨p, p.AB, p.AB.n, IntKind.i64.wrap ((t : Int) + 1)⟩ Q) :
 (D_f3_16 D11).wp ⟨p, t, p.AB.get t, p.AB, p.AB.n, t, p.AB.get t, (p.AB.get t).n, 0⟩ Q := by
 have hl := hp.ln t ht
 refine C4 (fun k => (⟨p, t, p.AB.get t, p.AB, p.AB.n, t, p.AB.get t, (p.AB.get t).n, (k : Nat)⟩ : X_f3_16)) (p.AB.get t).n (fun k => ∀ j, j < k → Dp p.AF.L ((p.AB.get t).get j) (p.AB.get t).n = 0) Q
  (fun D hJ => ?_) (fun D k hk hJ hD => ?_) (k := 0) (Nat.zero_le _) (fun j hj => by omega)
 · simp only [tt_f3_16, BF, Nat.lt_irrefl, decide_false, CE]
   exact of_wp (hgood hJ)
 · simp only [tt_f3_16, BF, hk, decide_true, Cd, A2 hk, BD, Int.toNat_natCast, Cu hk hl]
   refine wC (w_f3q p _ _ (hp.ins t ht k hk) hl hr) fun (y : Int) hy => ?_
   subst hy
   simp only [TT.wp, bnI, ieI]
   refine ⟨fun h => hbad _ h fun hok => h (hok k hk), fun h => hD fun j hj => ?_⟩
   by_cases e : j = k
   · subst e; exact Classical.byContradiction h
   · exact hJ j (by omega)
theorem PM (p : TPg) (h1 : 1 ≤ p.AB.n) (h2 : p.AB.n ≤ 8) (h3 : p.AF.n ≤ 8) (hr : ∀ c ∈ p.AF.L, BB c = true)
 (ht : ∀ t, t < p.AB.n → (p.AB.get t).n ≤ 256 ∧ J9 p.AF.L (p.AB.get t)) : EZ (aP p) where
 t1 := by simpa [aP] using h1
 t8 := by simpa [aP] using h2
 r8 := by simpa [aP] using h3
 rg := hr
 len l hl := by
  simp only [aP, List.mem_map] at hl
  obtain ⟨s, hs, rfl⟩ := hl
  obtain ⟨t, h, rfl⟩ := Sl.Ct.1 hs
  simpa using (ht t h).1
 ins l hl i hi := by
  simp only [aP, List.mem_map] at hl
  obtain ⟨s, hs, rfl⟩ := hl
  obtain ⟨t, h, rfl⟩ := Sl.Ct.1 hs
  obtain ⟨k, hk, rfl⟩ := Sl.Ct.1 hi
  have := (ht t h).2 k hk
  simpa [aP] using this
theorem Bi {p : TPg} (h : EZ (aP p)) : 1 ≤ p.AB.n ∧ p.AB.n ≤ 8 ∧ p.AF.n ≤ 8 ∧ (∀ c ∈ p.AF.L, BB c = true) ∧ ∀ t, t < p.AB.n → (p.AB.get t).n ≤ 256 ∧ J9 p.AF.L (p.AB.get t) := by
 have hm : ∀ t, t < p.AB.n → (p.AB.get t).L ∈ (aP p).AB := fun t ht => List.mem_map.2 ⟨_, Sl.Ct.2 ⟨t, ht, rfl⟩, rfl⟩
 refine ⟨by simpa [aP] using h.t1, by simpa [aP] using h.t8, by simpa [aP] using h.r8, h.rg, fun t ht => ⟨by simpa using h.len _ (hm t ht), fun k hk => ?_⟩⟩
 have := h.ins _ (hm t ht) _ (Sl.Ct.2 ⟨k, hk, rfl⟩)
 simpa [aP] using this
theorem l_f3_11 (p : TPg) (hp : Ib p) (h1 : 1 ≤ p.AB.n) (h2 : p.AB.n ≤ 8) (h3 : p.AF.n ≤ 8) (hr : ∀ c ∈ p.AF.L, BB c = true) :
 D_f3_11.wp ⟨p, p.AB, p.AB.n, 0⟩ fun y => y.2.2 = 0 ↔ EZ (aP p) := by
 refine C4 (fun k => (⟨p, p.AB, p.AB.n, (k : Nat)⟩ : X_f3_11)) p.AB.n (fun k => ∀ t, t < k → (p.AB.get t).n ≤ 256 ∧ J9 p.AF.L (p.AB.get t)) _
  (fun D hJ => ?_) (fun D k hk hJ hD => ?_) (k := 0) (Nat.zero_le _) (fun j hj => by omega)
 · simp only [tt_f3_11, BF, Nat.lt_irrefl, decide_false, CE]
   exact ⟨fun _ => PM p h1 h2 h3 hr hJ, fun _ => rfl⟩
 · simp only [tt_f3_11, BF, hk, decide_true, Cd, A2 hk, BD, Int.toNat_natCast]
   refine AE ilI (fun h => ?_) (fun h => ?_)
   · show ((4 : Int) = 0 ↔ _)
     refine ⟨fun h => by omega, fun hP => ?_⟩
     have := ((Bi hP).2.2.2.2 k hk).1
     omega
   · refine l_f3_16 p hp hr k hk D _ (fun y hy hno => ⟨fun h => absurd h hy, fun hP => absurd ((Bi hP).2.2.2.2 k hk).2 hno⟩) fun hok => ?_
     rw [Cu hk hp.tn]
     refine hD fun t ht => ?_
     by_cases e : t = k
     · subst e; exact ⟨by omega, hok⟩
     · exact hJ t (by omega)
theorem w_f3 (p : TPg) (hp : Ib p) : D_f3.wp p fun y => y.2.2 = 0 ↔ EZ (aP p) := by
 have ne : ∀ {x : Int} {q : Prop}, x ≠ 0 → ¬ q → (x = 0 ↔ q) := fun h k => ⟨fun e => absurd e h, fun e => absurd e k⟩
 refine of_wp ?_
 simp only [tt_f3]
 refine AE ieI (fun h => ?_) fun h0 => AE ilI (fun h => ?_) fun h8 => AE ilI (fun h => ?_) fun hr8 => ?_
 · exact ne (by decide) fun hP => by have := (Bi hP).1; omega
 · exact ne (by decide) fun hP => by have := (Bi hP).2.1; omega
 · exact ne (by decide) fun hP => by have := (Bi hP).2.2.1; omega
 · refine of_wp ?_
   simp only [tt_f3_4]
   refine C4 (fun k => (⟨p, p.AF, p.AF.n, (k : Nat)⟩ : X_f3_5)) p.AF.n (fun k => ∀ j, j < k → BB (p.AF.get j) = true) _
    (fun D hJ => ?_) (fun D k hk hJ hD => ?_) (k := 0) (Nat.zero_le _) (fun j hj => by omega)
   · simp only [tt_f3_5, BF, Nat.lt_irrefl, decide_false, CE]
     refine of_wp ?_
     simp only [tt_f3_10]
     exact l_f3_11 p hp (by omega) (by omega) (by omega) fun c hc => by
      obtain ⟨j, hj, rfl⟩ := Sl.Ct.1 hc
      exact hJ j hj
   · simp only [tt_f3_5, BF, hk, decide_true, Cd, A2 hk, BD, Int.toNat_natCast, Cu hk hp.rn]
     refine wC (w_f25 _) fun (y : Bool) hy => ?_
     simp only [TT.wp, bnI, hy]
     refine ⟨fun h => ne (by decide) fun hP => h ((Bi hP).2.2.2.1 _ (Sl.Ct.2 ⟨k, hk, rfl⟩)), fun h => hD fun j hj => ?_⟩
     by_cases e : j = k
     · subst e; exact Classical.byContradiction h
     · exact hJ j (by omega)
theorem w_f3c (p : TPg) (hp : Ib p) : D_f3c.wp p fun y => y = true ↔ EZ (aP p) := by
 refine of_wp ?_
 simp only [tt_f3c]
 refine wC (w_f3 p hp) fun (y : Int × Int × Int) hy => ?_
 show (AW y.2.2 0 = true ↔ _)
 rw [ieI]
 exact hy
def DH (x : Int) : ByteArray :=
 if x = 1 then ⟨#[114, 48, 48, 48, 110]⟩
 else if x = 2 ∨ x = 23 then ⟨#[114, 114, 48, 48, 48]⟩
 else if 3 ≤ x ∧ x ≤ 14 then ⟨#[114, 114, 114, 48, 48]⟩
 else if x = 15 then ⟨#[48, 48, 48, 48, 112]⟩
 else if x = 16 ∨ x = 17 then ⟨#[114, 48, 48, 48, 112]⟩
 else if x = 18 then ⟨#[114, 114, 103, 109, 48]⟩
 else if x = 19 then ⟨#[114, 114, 103, 109, 100]⟩
 else if x = 20 then ⟨#[48, 48, 103, 48, 48]⟩
 else if x = 21 ∨ x = 22 ∨ x = 24 then ⟨#[114, 48, 48, 48, 48]⟩
 else if x = 25 then ⟨#[48, 48, 48, 48, 48]⟩
 else ⟨#[]⟩
def C0 (c : Int) : Int := if c = 114 ∨ c = 103 ∨ c = 100 then 7 else if c = 109 then 2 else if c = 112 then 256 else if c = 110 then 18446744073709551615 else 0
theorem w_f49 (x : Int) : D_f49.wp x fun y => y = DH x := by
 refine of_wp ?_
 simp only [tt_f49, TT.wp, ieI, leI]
 repeat' (first | apply And.intro | intro _)
 all_goals first
  | (exfalso; omega)
  | (rename_i h; subst h; rfl)
  | (unfold DH; rw [if_neg (by omega), if_neg (by omega), if_pos (by omega)])
  | (unfold DH; rw [if_neg (by omega), if_neg (by omega), if_neg (by omega), if_neg (by omega), if_neg (by omega), if_neg (by omega), if_neg (by omega), if_neg (by omega), if_neg (by omega), if_neg (by omega)])
theorem w_f45 (x : Int) : D_f45.wp x fun y => y = C0 x := by
 refine of_wp ?_
 simp only [tt_f45, TT.wp, ieI]
 repeat' (first | apply And.intro | intro _)
 all_goals first
  | (rename_i h; subst h; rfl)
  | (unfold C0; rw [if_neg (by omega), if_neg (by omega), if_neg (by omega), if_neg (by omega)])
def KU (i : TIn) (j : Nat) : Int := cond (Nat.beq j 0) i.A (cond (Nat.beq j 1) i.B (cond (Nat.beq j 2) i.C i.D))
theorem Rz (x : Int) : DH x = ⟨#[]⟩ ∨ (DH x).size = 5 := by
 unfold DH
 repeat' split
 all_goals first | exact .inr rfl | exact .inl rfl
theorem QF {i : TIn} (h : UQ i) : (DH i.Op ≠ ⟨#[]⟩ ∧ i.K ≤ C0 (bt (DH i.Op) 4) ∧ ∀ j, j < 4 → 0 ≤ KU i j ∧ KU i j ≤ C0 (bt (DH i.Op) j)) ↔ B9 i = true := by
 have e4 : ∀ (f : ByteArray), (∀ j, j < 4 → 0 ≤ KU i j ∧ KU i j ≤ C0 (bt f j)) ↔ (0 ≤ i.A ∧ i.A ≤ C0 (bt f 0)) ∧ (0 ≤ i.B ∧ i.B ≤ C0 (bt f 1)) ∧ (0 ≤ i.C ∧ i.C ≤ C0 (bt f 2)) ∧ (0 ≤ i.D ∧ i.D ≤ C0 (bt f 3)) := by
  intro f
  refine ⟨fun h => ⟨h 0 (by omega), h 1 (by omega), h 2 (by omega), h 3 (by omega)⟩, fun h j hj => ?_⟩
  match j, hj with
  | 0, _ => exact h.1
  | 1, _ => exact h.2.1
  | 2, _ => exact h.2.2.1
  | 3, _ => exact h.2.2.2
 rw [e4]
 obtain ⟨⟨k0, k1⟩, _⟩ := h
 have m : C0 114 = 7 ∧ C0 48 = 0 ∧ C0 110 = 18446744073709551615 ∧ C0 112 = 256 ∧ C0 103 = 7 ∧ C0 109 = 2 ∧ C0 100 = 7 := by decide
 obtain ⟨m1, m2, m3, m4, m5, m6, m7⟩ := m
 have ne : ∀ {a b c d e : UInt8}, (⟨#[a, b, c, d, e]⟩ : ByteArray) ≠ ⟨#[]⟩ := fun h => by cases h
 have b5 : ∀ (a b c d e : UInt8), bt ⟨#[a, b, c, d, e]⟩ 0 = (a.toNat : Int) ∧ bt ⟨#[a, b, c, d, e]⟩ 1 = (b.toNat : Int) ∧ bt ⟨#[a, b, c, d, e]⟩ 2 = (c.toNat : Int) ∧ bt ⟨#[a, b, c, d, e]⟩ 3 = (d.toNat : Int) ∧ bt ⟨#[a, b, c, d, e]⟩ 4 = (e.toNat : Int) :=
  fun a b c d e => ⟨rfl, rfl, rfl, rfl, rfl⟩
 have u : (((114 : UInt8).toNat : Nat) : Int) = 114 ∧ (((48 : UInt8).toNat : Nat) : Int) = 48 ∧ (((110 : UInt8).toNat : Nat) : Int) = 110 ∧ (((112 : UInt8).toNat : Nat) : Int) = 112 ∧ (((103 : UInt8).toNat : Nat) : Int) = 103 ∧
  (((109 : UInt8).toNat : Nat) : Int) = 109 ∧ (((100 : UInt8).toNat : Nat) : Int) = 100 := by decide
 obtain ⟨u1, u2, u3, u4, u5, u6, u7⟩ := u
 have key : ∀ (a b c d e : UInt8), ((⟨#[a, b, c, d, e]⟩ : ByteArray) ≠ ⟨#[]⟩ ∧ i.K ≤ C0 (bt ⟨#[a, b, c, d, e]⟩ 4) ∧ (0 ≤ i.A ∧ i.A ≤ C0 (bt ⟨#[a, b, c, d, e]⟩ 0)) ∧ (0 ≤ i.B ∧ i.B ≤ C0 (bt ⟨#[a, b, c, d, e]⟩ 1)) ∧ (0 ≤ i.C ∧ i.C ≤ C0 (bt ⟨#[a, b, c, d, e]⟩ 2)) ∧ (0 ≤ i.D ∧ i.D ≤ C0 (bt ⟨#[a, b, c, d, e]⟩ 3))) ↔
  (i.K ≤ C0 e.toNat ∧ (0 ≤ i.A ∧ i.A ≤ C0 a.toNat) ∧ (0 ≤ i.B ∧ i.B ≤ C0 b.toNat) ∧ (0 ≤ i.C ∧ i.C ≤ C0 c.toNat) ∧ (0 ≤ i.D ∧ i.D ≤ C0 d.toNat)) := by
  intro a b c d e
  obtain ⟨h0, h1, h2, h3, h4⟩ := b5 a b c d e
  rw [h0, h1, h2, h3, h4]
  exact ⟨fun h => h.2, fun h => ⟨ne, h⟩⟩
 by_cases e1 : i.Op = 1
 · have hf : DH i.Op = ⟨#[114, 48, 48, 48, 110]⟩ := by rw [e1]; rfl
   rw [hf, key, u1, u2, u3, m1, m2, m3]; unfold B9; simp only [e1]; simp; omega
 by_cases e2 : i.Op = 2 ∨ i.Op = 23
 · have hf : DH i.Op = ⟨#[114, 114, 48, 48, 48]⟩ := by unfold DH; rw [if_neg e1, if_pos e2]
   rw [hf, key, u1, u2, m1, m2]; unfold B9; simp only [e1, e2, if_false, if_true, Bool.and_eq_true, decide_eq_true_eq]; omega
 by_cases e3 : 3 ≤ i.Op ∧ i.Op ≤ 14
 · have hf : DH i.Op = ⟨#[114, 114, 114, 48, 48]⟩ := by unfold DH; rw [if_neg e1, if_neg e2, if_pos e3]
   rw [hf, key, u1, u2, m1, m2]; unfold B9; simp only [e1, e2, e3, if_false, if_true, and_self, Bool.and_eq_true, decide_eq_true_eq]; omega
 by_cases e4 : i.Op = 15
 · have hf : DH i.Op = ⟨#[48, 48, 48, 48, 112]⟩ := by rw [e4]; rfl
   rw [hf, key, u2, u4, m2, m4]; unfold B9; simp only [e4]; simp; omega
 by_cases e5 : i.Op = 16 ∨ i.Op = 17
 · have hf : DH i.Op = ⟨#[114, 48, 48, 48, 112]⟩ := by unfold DH; rw [if_neg e1, if_neg e2, if_neg e3, if_neg e4, if_pos e5]
   rw [hf, key, u1, u2, u4, m1, m2, m4]; unfold B9; simp only [e1, e2, e3, e4, e5, if_false, if_true, Bool.and_eq_true, decide_eq_true_eq]; omega
 by_cases e6 : i.Op = 18
 · have hf : DH i.Op = ⟨#[114, 114, 103, 109, 48]⟩ := by rw [e6]; rfl
   rw [hf, key, u1, u2, u5, u6, m1, m2, m5, m6]; unfold B9; simp only [e6]; simp; omega
 by_cases e7 : i.Op = 19
 · have hf : DH i.Op = ⟨#[114, 114, 103, 109, 100]⟩ := by rw [e7]; rfl
   rw [hf, key, u1, u5, u6, u7, m1, m5, m6, m7]; unfold B9; simp only [e7]; simp; omega
 by_cases e8 : i.Op = 20
 · have hf : DH i.Op = ⟨#[48, 48, 103, 48, 48]⟩ := by rw [e8]; rfl
   rw [hf, key, u2, u5, m2, m5]; unfold B9; simp only [e8]; simp; omega
 by_cases e9 : i.Op = 21 ∨ i.Op = 22 ∨ i.Op = 24
 · have hf : DH i.Op = ⟨#[114, 48, 48, 48, 48]⟩ := by unfold DH; rw [if_neg e1, if_neg e2, if_neg e3, if_neg e4, if_neg e5, if_neg e6, if_neg e7, if_neg e8, if_pos e9]
   rw [hf, key, u1, u2, m1, m2]; unfold B9; simp only [e1, e2, e3, e4, e5, e6, e7, e8, e9, if_false, if_true, Bool.and_eq_true, decide_eq_true_eq]; omega
 by_cases e10 : i.Op = 25
 · have hf : DH i.Op = ⟨#[48, 48, 48, 48, 48]⟩ := by rw [e10]; rfl
   rw [hf, key, u2, m2]; unfold B9; simp only [e10]; simp; omega
 · have hf : DH i.Op = ⟨#[]⟩ := by unfold DH; rw [if_neg e1, if_neg e2, if_neg e3, if_neg e4, if_neg e5, if_neg e6, if_neg e7, if_neg e8, if_neg e9, if_neg e10]
   rw [hf]; unfold B9; simp only [e1, e2, e3, e4, e5, e6, e7, e8, e9, e10, if_false, ne_eq, not_true_eq_false, false_and, Bool.false_eq_true]
theorem w_fl (i : TIn) (h : UQ i) : D_fl.wp i fun y => y = true ↔ B9 i = true := by
 refine of_wp ?_
 simp only [tt_fl]
 refine wC (w_f49 i.Op) fun (y : ByteArray) hy => ?_
 subst hy
 have hR := QF h
 have hs := Rz i.Op
 generalize DH i.Op = f at hR hs
 refine AE (p := f = ⟨#[]⟩) NN (fun he => ?_) (fun he => ?_)
 · show (false = true ↔ _)
   rw [← hR]; exact ⟨fun h => absurd h (by decide), fun h => absurd he h.1⟩
 · have hs : f.size = 5 := hs.resolve_left he
   refine wN (by rw [ibI, hs]; decide) ?_
   refine wC (w_f45 _) fun (y : Int) hy => ?_
   subst hy
   refine AE ilI (fun hk => ?_) (fun hk => ?_)
   · show (false = true ↔ _)
     rw [← hR]
     refine ⟨fun h => absurd h (by decide), fun h => ?_⟩
     have := h.2.1
     exact absurd hk (Int.not_lt.2 this)
   · refine of_wp ?_
     simp only [tt_fl_4]
     refine C4 (fun k => (⟨f, ⟨false, 4, KU i⟩, (k : Nat)⟩ : X_fl_6)) 4 (fun k => ∀ j, j < k → 0 ≤ KU i j ∧ KU i j ≤ C0 (bt f j)) _
      (fun D hJ => ?_) (fun D k hk4 hJ hD => ?_) (k := 0) (Nat.zero_le _) (fun j hj => by omega)
     · simp only [tt_fl_6]
       refine AE ilI (fun hk => absurd hk (by decide)) (fun _ => ?_)
       show (true = true ↔ _)
       rw [← hR]
       exact ⟨fun _ => ⟨he, Int.not_lt.1 hk, hJ⟩, fun _ => rfl⟩
     · simp only [tt_fl_6]
       refine AE ilI (fun _ => ?_) (fun hk => absurd (Int.ofNat_lt.2 hk4) hk)
       refine wN (by rw [ibI]; exact ⟨Int.natCast_nonneg _, Int.ofNat_lt.2 hk4⟩) ?_
       rw [Int.toNat_natCast]
       have hb : KU i k < 9223372036854775808 := by
        obtain ⟨_, a, b, c, d⟩ := h
        match k, hk4 with
        | 0, _ => exact a
        | 1, _ => exact b
        | 2, _ => exact c
        | 3, _ => exact d
       refine AE (p := KU i k < 0) ilI (fun hn => ?_) (fun hn => ?_)
       · show (false = true ↔ _)
         rw [← hR]
         refine ⟨fun h => absurd h (by decide), fun h => ?_⟩
         have := (h.2.2 k hk4).1; omega
       · refine wN (by rw [ibI]; exact ⟨Int.natCast_nonneg _, Int.ofNat_lt.2 hk4⟩) (wN (by rw [ibI, hs]; omega) ?_)
         refine wC (w_f45 _) fun (y : Int) hy => ?_
         subst hy
         refine AE (p := C0 (bt f k) < KU i k) (by rw [ilI]; show C0 _ < IntKind.u64.wrap (KU i k) ↔ _; rw [Au (by omega) (by omega)]) (fun hn2 => ?_) (fun hn2 => ?_)
         · show (false = true ↔ _)
           rw [← hR]
           refine ⟨fun h => absurd h (by decide), fun h => ?_⟩
           have := (h.2.2 k hk4).2; omega
         · refine of_wp ?_
           simp only [tt_fl_7]
           have e : IntKind.i64.wrap ((k : Int) + 1) = ((k + 1 : Nat) : Int) := by rw [wrap64] <;> omega
           show D.wp ⟨f, ⟨false, 4, KU i⟩, _⟩ _
           rw [e]
           refine hD fun j hj => ?_
           by_cases ej : j = k
           · subst ej; exact ⟨by omega, by omega⟩
           · exact hJ j (by omega)
theorem w_f48 (c : TRg) : D_f48.wp c fun y => y = true ↔ BB c = true := by
 refine of_wp ?_
 simp only [tt_f48, TT.wp, leI, ilI, ieI, bnI, ibI, Bool.and_eq_true, Bool.false_eq_true, true_iff, false_iff, BB, decide_eq_true_eq]
 omega
theorem w_f26 (p : TPg) (i : TIn) (n : Nat) (hn : n ≤ maxLen) (hr : ∀ c ∈ p.AF.L, BB c = true) (hR : B9 i = true) : D_f26.wp (p, (i, (n : Int))) fun y => y = Dp p.AF.L i n := by
 have hn := GZ hn
 have hw : IntKind.u64.wrap (n : Int) = n := Au (by omega) (by omega)
 have hf := BK hR
 have hrd : 0 ≤ i.C → i.C < p.AF.n → IntKind.u64.wrap (p.AF.get i.C.toNat).AR = (p.AF.L.getD i.C.toNat ⟨0, 0, 0⟩).AR := fun h0 h1 => by
  rw [G8 _ h0 h1]
  have := GC (hr _ (Sl.Ct.2 ⟨i.C.toNat, by omega, rfl⟩))
  exact Au (by omega) (by omega)
 have e : Dp p.AF.L i n = if 15 ≤ i.Op ∧ i.Op ≤ 17 ∧ (n : Int) < i.K then 5 else if 18 ≤ i.Op ∧ i.Op ≤ 20 ∧ (p.AF.n : Int) ≤ i.C then 7 else if i.Op = 19 ∧ (p.AF.L.getD i.C.toNat ⟨0, 0, 0⟩).AR ≤ i.K then 7 else 0 := by
  simp only [Dp, hR, Bool.true_eq_false, if_false, Sl.Bb]
 have e3 : ¬ (15 ≤ i.Op ∧ i.Op ≤ 17 ∧ (n : Int) < i.K) → D_f26_3.wp (⟨p, i⟩ : X_f26_3) fun y => y = Dp p.AF.L i n := by
  intro hno
  refine of_wp ?_
  rw [e, if_neg hno]
  simp only [tt_f26_3, TT.wp, leI, ilI, ieI, bnI, ibI, Bool.and_eq_true, Bool.false_eq_true, true_iff, false_iff]
  repeat' (first | apply And.intro | intro _)
  all_goals first
   | omega
   | ((repeat' split) <;> first | rfl | (exfalso; omega) | omega)
 refine of_wp ?_
 simp only [tt_f26, hw]
 refine AE leI (fun h => AE leI (fun h2 => AE ilI (fun h3 => ?_) (fun h3 => ?_)) (fun h2 => ?_)) (fun h => ?_)
 · show (5 : Int) = _
   rw [e, if_pos ⟨h, h2, h3⟩]
 · exact e3 fun hh => h3 hh.2.2
 · exact e3 fun hh => h2 hh.2.1
 · exact e3 fun hh => h hh.1
theorem l_f2_15 (p : TPg) (hp : Ib p) (hr : ∀ c ∈ p.AF.L, BB c = true) (t : Nat) (ht : t < p.AB.n) (D9 : AU X_f2_9 R_f2) (Q : R_f2 → Prop)
 (hbad : ∀ y : Int × Int × Int, y.2.2 ≠ 0 → ¬ J9 p.AF.L (p.AB.get t) → Q y) (hgood : J9 p.AF.L (p.AB.get t) → D9.wp ⟨p, IntKind.i64.wrap ((t : Int) + 1)⟩ Q) :
 (D_f2_15 D9).wp ⟨p, t, p.AB.get t, 0⟩ Q := by
 have hl := hp.ln t ht
 refine C4 (fun k => (⟨p, t, p.AB.get t, (k : Nat)⟩ : X_f2_15)) (p.AB.get t).n (fun k => ∀ j, j < k → Dp p.AF.L ((p.AB.get t).get j) (p.AB.get t).n = 0) Q
  (fun D hJ => ?_) (fun D k hk hJ hD => ?_) (k := 0) (Nat.zero_le _) (fun j hj => by omega)
 · simp only [tt_f2_15, BF, Nat.lt_irrefl, decide_false, CE]
   refine of_wp ?_
   simp only [tt_f2_10]
   exact hgood hJ
 · simp only [tt_f2_15, BF, hk, decide_true, Cd, A2 hk, BD, Int.toNat_natCast]
   have h20 : ∀ e, e = Dp p.AF.L ((p.AB.get t).get k) (p.AB.get t).n →
    (D_f2_20 D9 D).wp (⟨p, t, p.AB.get t, k, e⟩ : X_f2_20) Q := by
    intro e he
    refine of_wp ?_
    simp only [tt_f2_20]
    refine AE (p := e ≠ 0) (by rw [bnI, ieI]) (fun h => ?_) (fun h => ?_)
    · exact hbad (_, _, e) h fun hok => h (he.trans (hok k hk))
    · refine of_wp ?_
      simp only [tt_f2_16, Cu hk hl]
      refine hD fun j hj => ?_
      by_cases ej : j = k
      · subst ej; rw [← he]; exact Classical.byContradiction h
      · exact hJ j (by omega)
   refine wC (w_fl _ (hp.ins t ht k hk)) fun (y : Bool) hy => ?_
   refine AE hy (fun hR => ?_) (fun hR => ?_)
   · exact wN rfl (wC (w_f26 p _ _ hl hr hR) fun (y : Int) hy =>
     h20 y hy)
   · refine h20 6 ?_
     rw [Dp, if_pos (by simpa using hR)]
theorem l_f2_9 (p : TPg) (hp : Ib p) (h1 : 1 ≤ p.AB.n) (h2 : p.AB.n ≤ 8) (h3 : p.AF.n ≤ 8) (hr : ∀ c ∈ p.AF.L, BB c = true) :
 D_f2_9.wp ⟨p, 0⟩ fun y => y.2.2 = 0 ↔ EZ (aP p) := by
 refine C4 (fun k => (⟨p, (k : Nat)⟩ : X_f2_9)) p.AB.n (fun k => ∀ t, t < k → (p.AB.get t).n ≤ 256 ∧ J9 p.AF.L (p.AB.get t)) _
  (fun D hJ => ?_) (fun D k hk hJ hD => ?_) (k := 0) (Nat.zero_le _) (fun j hj => by omega)
 · simp only [tt_f2_9, BF, Nat.lt_irrefl, decide_false, CE]
   exact ⟨fun _ => PM p h1 h2 h3 hr hJ, fun _ => rfl⟩
 · simp only [tt_f2_9, BF, hk, decide_true, Cd, A2 hk, BD, Int.toNat_natCast]
   refine AE ilI (fun h => ?_) (fun h => ?_)
   · show ((4 : Int) = 0 ↔ _)
     refine ⟨fun h => by omega, fun hP => ?_⟩
     have := ((Bi hP).2.2.2.2 k hk).1
     omega
   · refine l_f2_15 p hp hr k hk D _ (fun y hy hno => ⟨fun h => absurd h hy, fun hP => absurd ((Bi hP).2.2.2.2 k hk).2 hno⟩) fun hok => ?_
     rw [Cu hk hp.tn]
     refine hD fun t ht => ?_
     by_cases e : t = k
     · subst e; exact ⟨by omega, hok⟩
     · exact hJ t (by omega)
theorem w_f2 (p : TPg) (hp : Ib p) : D_f2.wp p fun y => y.2.2 = 0 ↔ EZ (aP p) := by
 have ne : ∀ {x : Int} {q : Prop}, x ≠ 0 → ¬ q → (x = 0 ↔ q) := fun h k => ⟨fun e => absurd e h, fun e => absurd e k⟩
 refine of_wp ?_
 simp only [tt_f2]
 refine AE ieI (fun h => ?_) fun h0 => AE ilI (fun h => ?_) fun h8 => AE ilI (fun h => ?_) fun hr8 => ?_
 · exact ne (by decide) fun hP => by have := (Bi hP).1; omega
 · exact ne (by decide) fun hP => by have := (Bi hP).2.1; omega
 · exact ne (by decide) fun hP => by have := (Bi hP).2.2.1; omega
 · refine of_wp ?_
   simp only [tt_f2_3]
   refine C4 (fun k => (⟨p, (k : Nat)⟩ : X_f2_4)) p.AF.n (fun k => ∀ j, j < k → BB (p.AF.get j) = true) _
    (fun D hJ => ?_) (fun D k hk hJ hD => ?_) (k := 0) (Nat.zero_le _) (fun j hj => by omega)
   · simp only [tt_f2_4, BF, Nat.lt_irrefl, decide_false, CE]
     refine of_wp ?_
     simp only [tt_f2_8]
     exact l_f2_9 p hp (by omega) (by omega) (by omega) fun c hc => by
      obtain ⟨j, hj, rfl⟩ := Sl.Ct.1 hc
      exact hJ j hj
   · simp only [tt_f2_4, BF, hk, decide_true, Cd, A2 hk, BD, Int.toNat_natCast, Cu hk hp.rn]
     refine wC (w_f48 _) fun (y : Bool) hy => ?_
     simp only [TT.wp, bnI, hy]
     refine ⟨fun h => ne (by decide) fun hP => h ((Bi hP).2.2.2.1 _ (Sl.Ct.2 ⟨k, hk, rfl⟩)), fun h => hD fun j hj => ?_⟩
     by_cases e : j = k
     · subst e; exact Classical.byContradiction h
     · exact hJ j (by omega)
theorem w_f43 (p : TPg) (hp : Ib p) : D_f43.wp p fun y => y = true ↔ EZ (aP p) := by
 refine of_wp ?_
 simp only [tt_f43]
 refine wC (w_f2 p hp) fun (y : Int × Int × Int) hy => ?_
 show (AW y.2.2 0 = true ↔ _)
 rw [ieI]
 exact hy
theorem GM {P : Program} {X R : Type} {tt : AU X R → X → TT P R} (st : Nat → X) (N : Nat) (p : Nat → Prop) (Q : R → Prop) (hend : ∀ D, (∀ j, j < N → p j) → (tt D (st N)).wp Q)
 (hstep : ∀ (D : AU X R) k, k < N → (p k → D.wp (st (k + 1)) Q) → (tt D (st k)).wp Q) : (AU.loop tt).wp (st 0) Q :=
 C4 st N (fun k => ∀ j, j < k → p j) Q hend
  (fun D k hk hJ hD => hstep D k hk fun h => hD fun j hj => by
    by_cases e : j = k
    · subst e; exact h
    · exact hJ j (by omega)) (Nat.zero_le _) fun j hj => by omega
theorem Bn {q : Prop} (h : ¬ q) : (false = true ↔ q) := ⟨fun e => absurd e (by decide), fun k => absurd k h⟩
theorem Pb {q : Prop} (h : q) : (true = true ↔ q) := ⟨fun _ => h, fun _ => rfl⟩
theorem EP {b : Bool} {p q : Prop} (hb : b = true ↔ p) (h : p ↔ q) : (b = true ↔ q) := hb.trans h
structure Ds {α : Type} (y x : Sl α) : Prop where
 n : y.n = x.n
 g : ∀ i, i < x.n → y.get i = x.get i
theorem Ds.L {α : Type} {y x : Sl α} (h : Ds y x) : y.L = x.L := Sl.Q7 h.n fun i hi => h.g i (h.n ▸ hi)
theorem Ds.refl {α : Type} (x : Sl α) : Ds x x := ⟨rfl, fun _ _ => rfl⟩
def CY {α : Type} (x : Sl α) : Prop := x.nil = true → x.n = 0
theorem H4 (i : Nat) : Nat.blt i 0 = false := rfl
theorem room_le {n b : Nat} (h : n * b ≤ 140737488351232) : (true && room (0 + n) b) = true := by simp [room]; omega
theorem Ky (x : Sl Int) (h : CY x) (hn : x.n * 8 ≤ 140737488351232) : D_f2e.wp x fun y => Ds y x ∧ CY y := by
 refine of_wp ?_
 simp only [tt_f2e]
 refine Aq (fun e => ⟨⟨(h e).symm, fun i hi => by have := h e; omega⟩, fun _ => rfl⟩) fun _ => wN (room_le hn) ⟨⟨?_, fun i _ => rfl⟩, fun e => ?_⟩
 · exact Nat.zero_add _
 · simp only [Bool.cond_self, Bool.false_eq_true] at e
theorem Ic (x : Sl Int) (h : CY x) (hn : x.n * 8 ≤ 140737488351232) : D_f1x.wp x fun y => Ds y x ∧ CY y := by
 refine of_wp ?_
 simp only [tt_f1x]
 refine Aq (fun e => ⟨⟨(h e).symm, fun i hi => by have := h e; omega⟩, fun _ => rfl⟩) fun _ => wN (room_le hn) ⟨⟨?_, fun i _ => rfl⟩, fun e => ?_⟩
 · exact Nat.zero_add _
 · simp only [Bool.cond_self, Bool.false_eq_true] at e
theorem KM (x : Sl TSo) (h : CY x) (hn : x.n * 24 ≤ 140737488351232) : D_f1n.wp x fun y => Ds y x ∧ CY y := by
 refine of_wp ?_
 simp only [tt_f1n]
 refine Aq (fun e => ⟨⟨(h e).symm, fun i hi => by have := h e; omega⟩, fun _ => rfl⟩) fun _ => wN (room_le hn) ⟨⟨?_, fun i _ => rfl⟩, fun e => ?_⟩
 · exact Nat.zero_add _
 · simp only [Bool.cond_self, Bool.false_eq_true] at e
theorem MF (x : Sl TIn) (h : CY x) (hn : x.n * 48 ≤ 140737488351232) : D_f1v.wp x fun y => Ds y x ∧ CY y := by
 refine of_wp ?_
 simp only [tt_f1v]
 refine Aq (fun e => ⟨⟨(h e).symm, fun i hi => by have := h e; omega⟩, fun _ => rfl⟩) fun _ => wN (room_le hn) ⟨⟨?_, fun i _ => rfl⟩, fun e => ?_⟩
 · exact Nat.zero_add _
 · simp only [Bool.cond_self, Bool.false_eq_true] at e
theorem NC (x : Sl TRg) (h : CY x) (hn : x.n * 24 ≤ 140737488351232) : D_f22.wp x fun y => Ds y x ∧ CY y := by
 refine of_wp ?_
 simp only [tt_f22]
 refine Aq (fun e => ⟨⟨(h e).symm, fun i hi => by have := h e; omega⟩, fun _ => rfl⟩) fun _ => wN (room_le hn) ⟨⟨?_, fun i _ => rfl⟩, fun e => ?_⟩
 · exact Nat.zero_add _
 · simp only [Bool.cond_self, Bool.false_eq_true] at e
theorem KN (x : Ar TSo) (h : 0 < x.n) (hn : x.n * 24 ≤ 140737488351232) : D_fw.wp x fun y => Ds y ⟨false, x.n, x.get⟩ ∧ CY y := by
 refine CF ?_
 simp only [tt_fw]
 refine wN (by simpa [Nat.blt_eq] using h) (wN (by simpa [room] using hn) ⟨⟨Nat.zero_add _, fun i _ => ?_⟩, fun e => ?_⟩)
 · simp [H4]
 · simp only [Bool.cond_self, Bool.false_eq_true] at e
theorem Ie (x : Ar Int) (h : 0 < x.n) (hn : x.n * 8 ≤ 140737488351232) : D_f13.wp x fun y => Ds y ⟨false, x.n, x.get⟩ ∧ CY y := by
 refine CF ?_
 simp only [tt_f13]
 refine wN (by simpa [Nat.blt_eq] using h) (wN (by simpa [room] using hn) ⟨⟨Nat.zero_add _, fun i _ => ?_⟩, fun e => ?_⟩)
 · simp [H4]
 · simp only [Bool.cond_self, Bool.false_eq_true] at e
theorem F3 (x : Ar TTh) (h : 0 < x.n) (hn : x.n * 128 ≤ 140737488351232) : D_fh.wp x fun y => Ds y ⟨false, x.n, x.get⟩ ∧ CY y := by
 refine CF ?_
 simp only [tt_fh]
 refine wN (by simpa [Nat.blt_eq] using h) (wN (by simpa [room] using hn) ⟨⟨Nat.zero_add _, fun i _ => ?_⟩, fun e => ?_⟩)
 · simp [H4]
 · simp only [Bool.cond_self, Bool.false_eq_true] at e
def TQ (n : Nat) (i : TIn) : Prop := B9 i = true ∧ ¬ (15 ≤ i.Op ∧ i.Op ≤ 17 ∧ (n : Int) < i.K)
def codeOk (l : Sl TIn) : Prop := l.n ≤ 256 ∧ ∀ k, k < l.n → TQ l.n (l.get k)
structure Om (l : Sl TIn) : Prop where
 n : l.n ≤ maxLen
 i : ∀ k, k < l.n → UQ (l.get k)
theorem w_f35 (i : TIn) (l : Sl TIn) (hi : UQ i) (hl : l.n ≤ 256) : D_f35.wp (i, l) fun y => y = true ↔ ¬ TQ l.n i := by
 refine of_wp ?_
 simp only [tt_f35]
 refine wC (w_f3k i hi) fun (y : Bool) hy => ?_
 refine AE bnI (fun h => Pb fun hc => h (hy.2 hc.1)) fun h => ?_
 have hR := hy.1 (Classical.byContradiction h)
 refine wC (w_f3l i) fun (z : Bool) hz => ?_
 refine AE hz (fun hj => ?_) fun hj => Bn fun k => k ⟨hR, fun hh => hj ⟨hh.1, hh.2.1⟩⟩
 refine EP ilI ?_
 rw [Au (by omega) (by omega)]
 exact ⟨fun h k => k.2 ⟨hj.1, hj.2, h⟩, fun h => Classical.byContradiction fun h2 => h ⟨hR, fun hh => h2 hh.2.2⟩⟩
theorem JQ (l m : Sl TIn) (hl : Om l) (hm : m.n ≤ 256) : D_f5.wp (l, m) fun y => 0 ≤ y ↔ ¬ ∀ k, k < l.n → TQ m.n (l.get k) := by
 refine of_wp ?_
 simp only [tt_f5]
 refine GM (fun k => (⟨l, m, l.n, (k : Nat)⟩ : X_f5_2)) l.n (fun k => TQ m.n (l.get k)) _ (fun D hJ => ?_) (fun D k hk hD => ?_)
 · simp only [tt_f5_2, BF, Nat.lt_irrefl, decide_false, CE]
   exact ⟨fun h => absurd h (by decide), fun h => absurd hJ h⟩
 · simp only [tt_f5_2, BF, hk, decide_true, Cd, A2 hk, BD, Int.toNat_natCast, Cu hk hl.n]
   refine wC (w_f35 _ m (hl.i k hk) hm) fun (y : Bool) hy => ?_
   refine AE hy (fun h => ⟨fun _ k2 => h (k2 k hk), fun _ => Int.natCast_nonneg k⟩) fun h => hD (Classical.byContradiction h)
theorem w_f3r (l : Sl TIn) (hl : Om l) : D_f3r.wp l fun y => y = true ↔ codeOk l := by
 refine of_wp ?_
 simp only [tt_f3r]
 refine AE ilI (fun h => Bn fun k => by have := k.1; omega) fun h => ?_
 have e : D_fm.wp (l, l) fun y => y = true ↔ ¬ ∀ k, k < l.n → TQ l.n (l.get k) := by
  refine of_wp ?_
  simp only [tt_fm]
  refine wC (JQ l l hl (by omega)) fun (y : Int) hy => EP leI hy
 refine wC e fun (y : Bool) hy => ?_
 refine EP bnI ?_
 rw [hy]
 exact ⟨fun k => ⟨by omega, Classical.byContradiction k⟩, fun k k2 => k2 k.2⟩
def aT (t : TTh) : MT := ⟨t.At, t.Phase, t.Ring, t.Status, t.AG, t.Ae, t.Seen.L⟩
theorem H2 (l : Sl TIn) {a : Int} (h0 : 0 ≤ a) (h1 : a < l.n) : gI l.L a = l.get a.toNat := by unfold gI; exact G8 l h0 h1 zI
theorem w_fv (l : Sl TIn) (t : TTh) (hl : Om l) (hk : 0 ≤ t.AG) : D_fv.wp (l, t) fun y => y = true ↔ codeOk l ∧ Fw l.L (aT t) := by
 refine of_wp ?_
 simp only [tt_fv]
 refine wC (w_f3r l hl) fun (y : Bool) hy => ?_
 refine AE bnI (fun h => Bn fun k => h (hy.2 k.1)) fun h => ?_
 have hc := hy.1 (Classical.byContradiction h)
 have a1 : Fw l.L (aT t) → t.At ≤ l.n := fun k => by have := k.a1; simpa [aT] using this
 refine AE ilI (fun h => Bn fun k => absurd k.2.a0 (Int.not_le.2 h)) fun h0 => AE ilI (fun h => Bn fun k => absurd (a1 k.2) (Int.not_le.2 h)) fun h1 =>
  AE ilI (fun h => Bn fun k => absurd k.2.st.1 (Int.not_le.2 h)) fun h2 => AE ilI (fun h => Bn fun k => absurd k.2.st.2 (Int.not_le.2 h)) fun h3 =>
  AE ilI (fun h => Bn fun k => absurd k.2.ph.1 (Int.not_le.2 h)) fun h4 => AE ilI (fun h => Bn fun k => absurd k.2.ph.2 (Int.not_le.2 h)) fun h5 => ?_
 refine of_wp ?_
 simp only [tt_fv_3]
 have mk : (t.Phase = 0 → t.Ring = 0 ∧ t.AG = 0) → (t.Phase ≠ 0 → t.Status = 0 ∧ t.At < l.n ∧ (l.get t.At.toNat).Op = 17 + t.Phase ∧ (l.get t.At.toNat).C = t.Ring ∧ t.AG < 4611686018427387904) → codeOk l ∧ Fw l.L (aT t) := by
  intro p0 p1
  refine ⟨hc, Int.not_lt.1 h0, ?_, ⟨Int.not_lt.1 h2, Int.not_lt.1 h3⟩, ⟨Int.not_lt.1 h4, Int.not_lt.1 h5⟩, p0, fun hp => ?_⟩
  · simpa [aT] using h1
  · obtain ⟨a, b, c, d, e⟩ := p1 hp
    refine ⟨a, by simpa [aT] using b, ?_, ?_, hk, e⟩
    · show (gI l.L t.At).Op = _; rw [H2 l (by omega) b]; exact c
    · show (gI l.L t.At).C = _; rw [H2 l (by omega) b]; exact d
 have un : Fw l.L (aT t) → t.Phase ≠ 0 → t.Status = 0 ∧ t.At < l.n ∧ (l.get t.At.toNat).Op = 17 + t.Phase ∧ (l.get t.At.toNat).C = t.Ring ∧ t.AG < 4611686018427387904 := by
  intro k hp
  obtain ⟨a, b, c, d, _, e⟩ := k.p1 hp
  have b : t.At < l.n := by simpa [aT] using b
  change (gI l.L t.At).Op = _ at c
  change (gI l.L t.At).C = _ at d
  rw [H2 l (by omega) b] at c d
  exact ⟨a, b, c, d, e⟩
 refine AE ieI (fun hp => AE ieI (fun hr => ?_) fun hr => Bn fun k => hr (k.2.p0 hp).1) fun hp => ?_
 · refine EP ieI ⟨fun ht => mk (fun _ => ⟨hr, ht⟩) fun h => absurd hp h, fun k => (k.2.p0 hp).2⟩
 · refine AE (p := t.Status ≠ 0) (by rw [bnI, ieI]) (fun hs => Bn fun k => hs (k.2.p1 hp).1) fun hs => AE ieI (fun ha => Bn fun k => by have := (un k.2 hp).2.1; omega) fun ha => ?_
   refine of_wp ?_
   simp only [tt_fv_7]
   have hw : IntKind.i64.wrap (t.Phase - 1) = t.Phase - 1 := wrap64 (by omega) (by omega)
   refine wN (by rw [ibI]; omega) (wN (by rw [ibI, hw]; omega) ?_)
   have ho : (cond (Nat.beq (Int.toNat (IntKind.i64.wrap (t.Phase - 1))) 0) (18 : Int) (19 : Int)) = 17 + t.Phase := by
    rw [hw]
    rcases (by omega : t.Phase = 1 ∨ t.Phase = 2) with e | e <;> rw [e] <;> rfl
   rw [ho]
   refine AE ieI (fun e1 => AE ieI (fun e2 => ?_) fun e2 => Bn fun k => e2 (un k.2 hp).2.2.2.1) fun e1 => Bn fun k => e1 (un k.2 hp).2.2.1
   exact EP ilI ⟨fun ht => mk (fun h => absurd h hp) fun _ => ⟨Classical.byContradiction hs, by omega, e1, e2, ht⟩, fun k => (un k.2 hp).2.2.2.2⟩
structure S0 (x : TSo) : Prop where
 s0 : 0 ≤ x.AP
 s1 : x.AP < 18446744073709551616
 l0 : -9223372036854775808 ≤ x.Left
 l1 : x.Left ≤ 9223372036854775807
structure NX (c nr : Int) (i : Nat) (x : TSo) : Prop where
 s1 : x.AP < 9223372036854775808
 Vr : x.AP / 2 % c = i
 free : x.AP % 2 = 0 → x.Value = 0 ∧ x.Left = 0
 held : x.AP % 2 = 1 → 1 ≤ x.Left ∧ x.Left < 2 ^ nr.toNat
theorem w_f3u (c r : Int) : D_f3u.wp (c, r) fun y => y = true ↔ 1 ≤ c ∧ c ≤ 64 ∧ 1 ≤ r ∧ r ≤ 8 := by
 refine of_wp ?_
 simp only [tt_f3u, TT.wp, leI, Bool.false_eq_true, false_iff]
 omega
theorem J1 {r : Int} (h1 : 1 ≤ r) (h8 : r ≤ 8) : shl IntKind.i64 1 r = 2 ^ r.toNat := by
 rcases (by omega : r = 1 ∨ r = 2 ∨ r = 3 ∨ r = 4 ∨ r = 5 ∨ r = 6 ∨ r = 7 ∨ r = 8) with e | e | e | e | e | e | e | e <;> subst e <;> rfl
theorem w_f1z (i : Nat) (c r : Int) (x : TSo) (hx : S0 x) (hc : 1 ≤ c ∧ c ≤ 64 ∧ 1 ≤ r ∧ r ≤ 8) (hi : (i : Int) < 9223372036854775808) : D_f1z.wp ((i : Int), (c, (r, x))) fun y => y = true ↔ NX c r i x := by
 refine of_wp ?_
 have h0 := hx.s0
 have hs := hx.s1
 simp only [tt_f1z]
 have hd : Int.tdiv x.AP 2 = x.AP / 2 := Int.tdiv_eq_ediv_of_nonneg h0
 have hw1 : IntKind.u64.wrap (x.AP / 2) = x.AP / 2 := Au (by omega) (by omega)
 have hw2 : IntKind.u64.wrap c = c := Au (by omega) (by omega)
 have hw3 : IntKind.u64.wrap (i : Int) = i := Au (by omega) (by omega)
 have hm : Int.tmod (x.AP / 2) c = x.AP / 2 % c := Int.tmod_eq_emod_of_nonneg (by omega)
 have hm2 : Int.tmod x.AP 2 = x.AP % 2 := Int.tmod_eq_emod_of_nonneg h0
 rw [hd, hw1, hw2, hw3, hm]
 refine AE leI (fun h => Bn fun k => absurd k.s1 (Int.not_lt.2 h)) fun h => wN (by rw [bnI, ieI]; omega) (AE (p := x.AP / 2 % c ≠ i) (by rw [bnI, ieI]) (fun h => Bn fun k => h k.Vr) fun h2 => ?_)
 refine of_wp ?_
 simp only [tt_f1z_3]
 rw [hm2]
 have h2 := Classical.byContradiction h2
 refine AE ieI (fun e => AE ieI (fun e2 => EP ieI ⟨fun e3 => ⟨by omega, h2, fun _ => ⟨e2, e3⟩, fun e4 => by omega⟩, fun k => (k.free e).2⟩) fun e2 => Bn fun k => e2 (k.free e).1) fun e => ?_
 refine AE leI (fun e2 => wN (by rw [leI]; omega) ?_) fun e2 => Bn fun k => e2 (k.held (by omega)).1
 refine EP ilI ?_
 rw [J1 hc.2.2.1 hc.2.2.2]
 exact ⟨fun e3 => ⟨by omega, h2, fun e4 => absurd e4 e, fun _ => ⟨e2, e3⟩⟩, fun k => (k.held (by omega)).2⟩
def Pr (c r : Int) (l : Sl TSo) : Prop := (l.n : Int) = c ∧ ∀ i, i < l.n → NX c r i (l.get i)
structure V1 (l : Sl TSo) : Prop where
 n : l.n ≤ maxLen
 x : ∀ i, i < l.n → S0 (l.get i)
 z : CY l
theorem w_fx (c r : Int) (l : Sl TSo) (hl : V1 l) (hc : 1 ≤ c ∧ c ≤ 64 ∧ 1 ≤ r ∧ r ≤ 8) :
 D_fx.wp (c, (r, l)) fun y => (Pr c r l ∧ y.2 = 0 ∧ y.1.nil = false ∧ Ds y.1.x.l l ∧ y.1.x.AX = r ∧ CY y.1.x.l) ∨ (¬ Pr c r l ∧ y.2 = 3 ∧ y.1.nil = true) := by
 refine of_wp ?_
 simp only [tt_fx]
 refine wC (w_f3u c r) fun (y : Bool) hy => ?_
 refine AE bnI (fun h => absurd (hy.2 hc) h) fun _ => ?_
 refine AE (p := (l.n : Int) ≠ c) (by rw [bnI, ieI]) (fun h => .inr ⟨fun k => h k.1, rfl, rfl⟩) fun h => ?_
 have hn := Classical.byContradiction h
 refine GM (fun k => (⟨c, r, l, l, l.n, (k : Nat)⟩ : X_fx_6)) l.n (fun k => NX c r k (l.get k)) _ (fun D hJ => ?_) (fun D k hk hD => ?_)
 · simp only [tt_fx_6, BF, Nat.lt_irrefl, decide_false, CE]
   refine of_wp ?_
   simp only [tt_fx_11]
   refine wC (KM l hl.z (by omega)) fun (y : Sl TSo) hy => ?_
   exact .inl ⟨⟨hn, hJ⟩, rfl, rfl, hy.1, rfl, hy.2⟩
 · simp only [tt_fx_6, BF, hk, decide_true, Cd, A2 hk, BD, Int.toNat_natCast, Cu hk hl.n]
   refine wC (w_f1z k c r _ (hl.x k hk) hc (by have := GZ hl.n; omega)) fun (y : Bool) hy => ?_
   refine AE bnI (fun h => .inr ⟨fun kk => h (hy.2 (kk.2 k hk)), rfl, rfl⟩) fun h => hD (hy.1 (Classical.byContradiction h))
def Pj (c : Int) (x : TSo) (h : Int) (j : Nat) : Prop :=
 (x.AP % 2 = 1 → Dy x.Left j = false → x.AP / 2 < h) ∧ (x.AP % 2 = 0 → c ≤ x.AP / 2 → x.AP / 2 - c < h)
def HT (c tail : Int) (AD : Sl Int) (x : TSo) : Prop := (x.AP % 2 = 1 → x.AP / 2 < tail) ∧ ∀ j, j < AD.n → Pj c x (AD.get j) j
theorem Ut : ∀ (x : Fin 256) (j : Fin 8), decide (Vm.bits .and IntKind.i64 (shr IntKind.i64 (x.val : Int) (j.val : Int)) 1 = 0) = !Dy (x.val : Int) (j.val : Int) := by decide +kernel
theorem PJ {x : Int} {j : Nat} (h0 : 0 ≤ x) (h1 : x < 256) (hj : j < 8) : Vm.bits .and IntKind.i64 (shr IntKind.i64 x (j : Int)) 1 = 0 ↔ Dy x (j : Int) = false := by
 have := Ut ⟨x.toNat, by omega⟩ ⟨j, hj⟩
 simp only [show ((x.toNat : Nat) : Int) = x by omega] at this
 exact decide_eq_true_iff.symm.trans (by rw [this]; simp)
structure V3 (l : Sl Int) : Prop where
 n : l.n ≤ 8
 h : ∀ j, j < l.n → 0 ≤ l.get j ∧ l.get j < 18446744073709551616
theorem MB (x : TSo) (r : TRr) (hx : 0 ≤ x.AP ∧ x.AP < 9223372036854775808) (hl : 0 ≤ x.Left ∧ x.Left < 256) (hh : V3 r.AA.AD) (hm : 0 ≤ r.most ∧ r.most ≤ 64) :
 D_f0.wp (x, r) fun y => y = true ↔ HT r.most r.AA.tail r.AA.AD x := by
 refine CF ?_
 simp only [tt_f0]
 have hd : Int.tdiv x.AP 2 = x.AP / 2 := Int.tdiv_eq_ediv_of_nonneg hx.1
 have hw1 : IntKind.u64.wrap (x.AP / 2) = x.AP / 2 := Au (by omega) (by omega)
 have hm2 : Int.tmod x.AP 2 = x.AP % 2 := Int.tmod_eq_emod_of_nonneg hx.1
 rw [hd, hw1, hm2]
 have h5 : (x.AP % 2 = 1 → x.AP / 2 < r.AA.tail) → D_f0_5.wp (⟨x, x.AP / 2, AW (x.AP % 2) 1, r⟩ : X_f0_5) fun y => y.1 = true ↔ HT r.most r.AA.tail r.AA.AD x := by
  intro ht
  refine of_wp ?_
  simp only [tt_f0_5]
  refine GM (fun k => (⟨x, x.AP / 2, AW (x.AP % 2) 1, r.AA.AD.n, (k : Nat), r⟩ : X_f0_6)) r.AA.AD.n (fun k => Pj r.most x (r.AA.AD.get k) k) _ (fun D hJ => ?_) (fun D k hk hD => ?_)
  · simp only [tt_f0_6, BF, Nat.lt_irrefl, decide_false, CE]
    exact wN (by simp) (Pb ⟨ht, hJ⟩)
  · have hn := hh.n
    have hg := hh.h k hk
    have e2 : IntKind.i64.wrap ((k : Int) + 1) = ((k + 1 : Nat) : Int) := by rw [wrap64] <;> omega
    simp only [tt_f0_6, BF, hk, decide_true, Cd, A2 hk, BD, Int.toNat_natCast, Nat.zero_add]
    refine wN (by simp) ?_
    have hb := PJ hl.1 hl.2 (Nat.lt_of_lt_of_le hk hn)
    have h12 : Pj r.most x (r.AA.AD.get k) k → (D_f0_12 D).wp (⟨x, x.AP / 2, AW (x.AP % 2) 1, r.AA.AD.n, k, r⟩ : X_f0_12) fun y => y.1 = true ↔ HT r.most r.AA.tail r.AA.AD x := fun hc => by
     refine of_wp ?_
     simp only [tt_f0_12, e2]
     exact hD hc
    refine AE ieI (fun ho => ?_) fun ho => ?_
    · have nh : ∀ {t e : TT Tryz.prog RR_f0} {Q}, e.wp Q → (TT.ite (!(AW (x.AP % 2) 1)) t e).wp Q := fun h => Aq (fun k => by rw [bnI, ieI] at k; exact absurd ho k) fun _ => h
      refine wN (by rw [leI]; omega) (AE (ieI.trans hb) (fun hz => AE leI (fun hle => wN (by simp) (Bn fun kk => ?_)) fun hle => nh (h12 ⟨fun _ _ => by omega, fun e => by omega⟩)) fun hz => nh (h12 ⟨fun _ e => absurd e hz, fun e => by omega⟩))
      have := (kk.2 k hk).1 ho hz
      omega
    · refine Aq (fun _ => AE leI (fun h1 => ?_) fun h1 => h12 ⟨fun e => absurd e ho, fun _ e => absurd e h1⟩) fun k => absurd (bnI.2 fun e => ho (ieI.1 e)) k
      rw [Au (by omega) (by omega)]
      refine AE leI (fun h2 => wN (by simp) (Bn fun kk => ?_)) fun h2 => h12 ⟨fun e => absurd e ho, fun _ _ => by omega⟩
      have := (kk.2 k hk).2 (by omega) h1
      omega
 refine AE ieI (fun ho => AE leI (fun ht => Bn fun k => absurd (k.1 ho) (Int.not_lt.2 ht)) fun ht => h5 fun _ => by omega) fun ho => h5 fun e => absurd e ho
structure V2 (s : TRs) : Prop where
 t0 : 0 ≤ s.A0
 t1 : s.A0 < 18446744073709551616
 hn : s.AV.n ≤ maxLen
 hh : ∀ j, j < s.AV.n → 0 ≤ s.AV.get j ∧ s.AV.get j < 18446744073709551616
 hz : CY s.AV
 ss : V1 s.Al
structure Sk (c : TRg) (s : TRs) : Prop where
 sl : Pr c.DP c.AR s.Al
 rd : (s.AV.n : Int) = c.AR
 tb : s.A0 < 4611686018427387904
 h0 : ∀ j, j < s.AV.n → s.AV.get j ≤ s.A0 ∧ s.A0 - s.AV.get j ≤ c.DP
 st : ∀ i, i < s.Al.n → HT c.DP s.A0 s.AV (s.Al.get i)
theorem DD {c : TRg} (h : BB c = true) : 1 ≤ c.DP ∧ c.DP ≤ 64 ∧ 1 ≤ c.AR ∧ c.AR ≤ 8 := by
 simp only [BB, decide_eq_true_eq] at h; omega
theorem Oe {c r : Int} {i : Nat} {x : TSo} (h : NX c r i x) (h8 : r ≤ 8) : 0 ≤ x.Left ∧ x.Left < 256 := by
 rcases (by omega : x.AP % 2 = 0 ∨ x.AP % 2 = 1) with e | e
 · have := h.free e; omega
 · have := h.held e
   have h2 : (2 : Int) ^ r.toNat ≤ 2 ^ 8 := by exact_mod_cast Nat.pow_le_pow_right (by decide) (by omega : r.toNat ≤ 8)
   omega
structure QS (c : TRg) (r : TRr) : Prop where
 sn : r.s.nil = false
 rd : r.s.x.AX = c.AR
 ms : r.most = c.DP
 hz : CY r.AA.AD
 lz : CY r.s.x.l
 hn : (r.AA.AD.n : Int) = c.AR
 ln : (r.s.x.l.n : Int) = c.DP
def aR (r : TRr) : MR := ⟨r.AA.tail, r.AA.AD.L, r.closed, r.s.x.l.L⟩
def JM (s : TRs) : MR := ⟨s.A0, s.AV.L, s.As, s.Al.L⟩
theorem w_f46 (c : TRg) : D_f46.wp c fun y => y = true ↔ (c.Kind = 1 ∧ c.AR = 1 ∨ c.Kind = 2) := by
 refine of_wp ?_
 simp only [tt_f46, TT.wp, ieI, Bool.false_eq_true, true_iff, false_iff]
 omega
theorem w_f2s (x : Int) (h0 : 0 ≤ x) (h1 : x < 9223372036854775808) : D_f2s.wp x fun y => y = 2 * x := by
 refine of_wp ?_
 simp only [tt_f2s]
 exact Au (by omega) (by omega)
def H5 (i : Nat) : TSo := ⟨2 * (i : Int), 0, 0⟩
theorem w_f1t (c r : Int) (hi : 1 ≤ c ∧ c ≤ 64 ∧ 1 ≤ r ∧ r ≤ 8) :
 D_f1t.wp (c, r) fun y => y.2 = 0 ∧ y.1.nil = false ∧ Ds y.1.x.l ⟨false, c.toNat, H5⟩ ∧ y.1.x.AX = r ∧ CY y.1.x.l := by
 refine of_wp ?_
 simp only [tt_f1t]
 refine wC (w_f3u c r) fun (y : Bool) hy => ?_
 refine AE bnI (fun h => absurd (hy.2 hi) h) fun _ => ?_
 obtain ⟨n, rfl⟩ : ∃ n : Nat, c = n := ⟨c.toNat, by omega⟩
 simp only [Int.toNat_natCast]
 refine wN (by simp [upto, room, Bw]; omega) (wN (by simp) ?_)
 have hl := by
  refine DN (tt := tt_f1t_5) (fun x : X_f1t_5 => x.MM = n ∧ ∃ k : Nat, x.HX = k ∧ k ≤ n ∧ x.DT.l.nil = false ∧ x.DT.l.n = n ∧ x.DT.AX = r ∧ (∀ i, i < n → x.DT.l.get i = if i < k then H5 i else ⟨0, 0, 0⟩)) (fun x => (n - x.HX).toNat)
   (fun _ y => y.2 = 0 ∧ y.1.nil = false ∧ Ds y.1.x.l ⟨false, n, H5⟩ ∧ y.1.x.AX = r ∧ CY y.1.x.l) (fun D x hI hD => ?_) (x := (⟨n, 0, ⟨⟨false, n, fun _ => ⟨0, 0, 0⟩⟩, r⟩⟩ : X_f1t_5)) ⟨rfl, 0, rfl, by omega, rfl, rfl, rfl, fun i _ => by simp⟩
  obtain ⟨e0, k, e1, hk, hz, hn, hr, hg⟩ := hI
  obtain ⟨q21, q22, ⟨⟨z, m, g⟩, rr⟩⟩ := x
  simp only at e0 e1 hz hn hr hg hD
  subst e0 e1 hz hn hr
  simp only [tt_f1t_5]
  refine AE ilI (fun h => ?_) fun h => ?_
  · have hkm : k < m := by omega
    rw [Au (by omega) (by omega)]
    refine wC (w_f2s k (by omega) (by omega)) fun (y : Int) hy => ?_
    subst hy
    refine wN (A2 hkm) (wN (by simp) (wN (by simp) ?_))
    have e2 : IntKind.i64.wrap ((k : Int) + 1) = ((k + 1 : Nat) : Int) := by rw [wrap64] <;> omega
    rw [e2]
    refine hD _ ⟨rfl, k + 1, rfl, hkm, rfl, rfl, rfl, fun i hi => ?_⟩ (by simp only; omega)
    simp only [Int.toNat_natCast, Nat.zero_add]
    by_cases e : i = k
    · subst e
      have := hg i hi
      simp only [this, Nat.lt_irrefl, if_false, Nat.beq_refl, cond_true, H5]
      rw [if_pos (by omega)]
    · have hb : Nat.beq i k = false := Bool.eq_false_iff.2 fun h => e (Nat.eq_of_beq_eq_true h)
      simp only [hb, cond_false, hg i hi]
      by_cases e3 : i < k
      · rw [if_pos e3, if_pos (by omega)]
      · rw [if_neg e3, if_neg (by omega)]
  · have : k = m := by omega
    subst this
    refine ⟨rfl, rfl, ⟨rfl, fun i hi => ?_⟩, rfl, fun e => by cases e⟩
    show g i = H5 i
    rw [hg i hi, if_pos hi]
 exact hl
theorem J2 (n : Nat) (b : Bool) : (⟨b, n, fun _ => (0 : Int)⟩ : Sl Int).L = List.replicate n 0 := by
 apply List.ext_getElem
 · simp
 · intro i h1 h2; simp [Sl.HC]
theorem w_f2r (c : TRg) (hc : BB c = true) : D_f2r.wp c fun y => y.2 = 0 ∧ y.1.nil = false ∧ QS c y.1.x ∧ aR y.1.x = HE c := by
 have hf := DD hc
 refine of_wp ?_
 simp only [tt_f2r]
 refine wC (w_f1t c.DP c.AR hf) fun (y : Bx TSs × Int) hy => ?_
 obtain ⟨⟨bn, ⟨sl, rd⟩⟩, er⟩ := y
 obtain ⟨rfl, rfl, hs, rfl, hz⟩ := hy
 refine AE (p := (0 : Int) ≠ 0) (by rw [bnI, ieI]) (fun h => absurd rfl h) fun _ => ?_
 refine wC (w_f46 c) fun (z : Bool) hz' => ?_
 refine AE bnI (fun h => absurd (hz'.2 (by simp only [BB, decide_eq_true_eq] at hc; omega)) h) fun _ => ?_
 refine of_wp ?_
 simp only [tt_f2r_4]
 have hroom : c.AR.toNat * 8 ≤ 140737488351232 := by omega
 refine wN (by simp [upto, room, Bw, hroom]; omega) ⟨rfl, rfl, ⟨rfl, rfl, Au (by omega) (by omega), fun e => by (cases e), hz, by show ((c.AR.toNat : Nat) : Int) = _; omega, by show (sl.n : Int) = _; rw [hs.n]; show ((c.DP.toNat : Nat) : Int) = _; omega⟩, ?_⟩
 show (⟨0, _, false, sl.L⟩ : MR) = _
 rw [hs.L, J2]
 rfl
theorem w_fb (c : TRg) (s : TRs) (hc : BB c = true) (hs : V2 s) :
 D_fb.wp (c, s) fun y => (Sk c s ∧ y.2 = 0 ∧ y.1.nil = false ∧ QS c y.1.x ∧ aR y.1.x = JM s) ∨ (¬ Sk c s ∧ y.2 = 3) := by
 have hf := DD hc
 refine of_wp ?_
 simp only [tt_fb]
 refine wC (w_f2r c hc) fun (y : Bx TRr × Int) hy => ?_
 obtain ⟨⟨bn, r⟩, er⟩ := y
 obtain ⟨h0, h1, hw, _⟩ := hy
 simp only at h0 h1 hw
 subst h0 h1
 refine AE (p := (0 : Int) ≠ 0) (by rw [bnI, ieI]) (fun h => absurd rfl h) fun _ => ?_
 refine wC (w_fx c.DP c.AR s.Al hs.ss hf) fun (z : Bx TSs × Int) hz => ?_
 obtain ⟨⟨zn, ⟨zl, zr⟩⟩, ze⟩ := z
 rcases hz with ⟨hsl, he, hzn, hsame, hrd, hlz⟩ | ⟨hno, he, _⟩
 · simp only at he hzn hsame hrd hlz
   subst he hzn hrd
   refine AE (p := (0 : Int) ≠ 0) (by rw [bnI, ieI]) (fun h => absurd rfl h) fun _ => ?_
   refine AE (p := (s.AV.n : Int) ≠ c.AR) (by rw [bnI, ieI]) (fun h => .inr ⟨fun k => h k.rd, rfl⟩) fun h1 => AE leI (fun h => .inr ⟨fun k => absurd k.tb (Int.not_lt.2 h), rfl⟩) fun h2 => ?_
   have h1 := Classical.byContradiction h1
   refine wN rfl ?_
   refine of_wp ?_
   simp only [tt_fb_7]
   refine wC (Ic s.AV hs.hz (by omega)) fun (hd : Sl Int) hhd => ?_
   obtain ⟨hsm, hhz⟩ := hhd
   have t0 := hs.t0
   have hnn : hd.n = s.AV.n := hsm.n
   rw [hnn]
   refine GM (fun k => (⟨s, s.AV.n, (k : Nat), ⟨⟨s.A0, hd⟩, ⟨false, ⟨zl, c.AR⟩⟩, r.most, s.As⟩⟩ : X_fb_9)) s.AV.n (fun j => s.AV.get j ≤ s.A0 ∧ s.A0 - s.AV.get j ≤ c.DP) _ (fun D hJ => ?_) (fun D k hk hD => ?_)
   · simp only [tt_fb_9, BF, Nat.lt_irrefl, decide_false, CE]
     refine wN (by simp) (of_wp ?_)
     simp only [tt_fb_14]
     refine GM (fun k => (⟨s.Al, s.Al.n, (k : Nat), ⟨⟨s.A0, hd⟩, ⟨false, ⟨zl, c.AR⟩⟩, r.most, s.As⟩⟩ : X_fb_15)) s.Al.n (fun i => HT c.DP s.A0 s.AV (s.Al.get i)) _ (fun D hJ2 => ?_) (fun D k hk hD => ?_)
     · simp only [tt_fb_15, BF, Nat.lt_irrefl, decide_false, CE]
       refine .inl ⟨⟨hsl, h1, by omega, hJ, hJ2⟩, rfl, rfl, ⟨rfl, rfl, hw.ms, hhz, hlz, by show (hd.n : Int) = _; omega, by show (zl.n : Int) = _; rw [hsame.n]; exact hsl.1⟩, ?_⟩
       · show (⟨s.A0, hd.L, s.As, zl.L⟩ : MR) = _
         rw [hsm.L, hsame.L]; rfl
     · have hx := hs.ss.x k hk
       have hp := hsl.2 k hk
       simp only [tt_fb_15, BF, hk, decide_true, Cd, A2 hk, BD, Int.toNat_natCast, Cu hk hs.ss.n]
       have hok : V3 hd := ⟨by omega, fun j hj => by rw [hsm.g j (by omega)]; exact hs.hh j (by omega)⟩
       refine wC (MB _ ⟨⟨s.A0, hd⟩, ⟨false, ⟨zl, c.AR⟩⟩, r.most, s.As⟩ ⟨hx.s0, hp.s1⟩ (Oe hp hf.2.2.2) hok (by rw [hw.ms]; omega)) fun (y : Bool) hy => ?_
       have heq : HT r.most s.A0 hd (s.Al.get k) ↔ HT c.DP s.A0 s.AV (s.Al.get k) := by
        rw [hw.ms]
        unfold HT
        rw [hsm.n]
        exact and_congr_right fun _ => ⟨fun h j hj => by have := h j hj; rwa [hsm.g j hj] at this, fun h j hj => by rw [hsm.g j hj]; exact h j hj⟩
       rw [heq] at hy
       exact AE bnI (fun h => .inr ⟨fun kk => h (hy.2 (kk.st k hk)), rfl⟩) fun h => hD (hy.1 (Classical.byContradiction h))
   · have hg := hs.hh k hk
     have hkd : k < hd.n := by omega
     simp only [tt_fb_9, BF, hk, decide_true, Cd, A2 hkd, BD, Int.toNat_natCast, Nat.zero_add, hsm.g k hk]
     refine wN (by simp) (AE ilI (fun h => wN (by simp) (.inr ⟨fun kk => ?_, rfl⟩)) fun h => ?_)
     · have := (kk.h0 k hk).1; omega
     · rw [Au (by omega) (by omega), hw.ms]
       refine AE ilI (fun h => wN (by simp) (.inr ⟨fun kk => ?_, rfl⟩)) fun h => ?_
       · have := (kk.h0 k hk).2; omega
       · refine of_wp ?_
         simp only [tt_fb_13, Cu hk hs.hn]
         rw [← hw.ms]
         exact hD ⟨by omega, by omega⟩
 · simp only at he
   subst he
   exact AE (p := (3 : Int) ≠ 0) (by rw [bnI, ieI]) (fun _ => .inr ⟨fun k => hno k.sl, rfl⟩) fun h => absurd (by decide) h
theorem QV {X R : Type} {D : AU X R} {x x' : X} {Q : R → Prop} (h : D.wp x' Q) (e : x = x') : D.wp x Q := e ▸ h
theorem E8 {α β γ : Type} {s : Sl α} {t : Sl β} {f : α → γ} {g : β → γ} (hn : s.n = t.n) (h : ∀ i, i < t.n → f (s.get i) = g (t.get i)) : s.L.map f = t.L.map g := by
 apply List.ext_getElem
 · simp [hn]
 · intro i h1 h2
   simp only [List.getElem_map, Sl.HC]
   exact h i (by simpa using h2)
def snoc {α : Type} (s : Sl α) (y : α) : Sl α := ⟨false, s.n + 1, fun i => cond (Nat.blt i s.n) (s.get i) y⟩
def Il {α : Type} (s : Sl α) (k : Nat) (y : α) : Sl α := ⟨s.nil, s.n, fun i => cond (Nat.beq i k) y (s.get i)⟩
theorem PE {i n : Nat} (h : i < n) : Nat.blt i n = true := by rw [Nat.blt_eq]; exact h
theorem PF (n : Nat) : Nat.blt n n = false := Bool.eq_false_iff.2 fun h => by rw [Nat.blt_eq] at h; omega
theorem Jx {i k : Nat} (h : i ≠ k) : Nat.beq i k = false := Bool.eq_false_iff.2 fun e => h (Nat.eq_of_beq_eq_true e)
theorem Gr {α : Type} {s : Sl α} {y : α} {i : Nat} (h : i < s.n) : (snoc s y).get i = s.get i := by simp [snoc, PE h]
theorem Gs {α : Type} {s : Sl α} {y : α} : (snoc s y).get s.n = y := by simp [snoc, PF]
theorem NL {α : Type} {s : Sl α} {y : α} {i k : Nat} (h : i ≠ k) : (Il s k y).get i = s.get i := by simp [Il, Jx h]
theorem NM {α : Type} {s : Sl α} {y : α} {k : Nat} : (Il s k y).get k = y := by simp [Il]
structure HJ (y p : TPg) : Prop where
 r : Ds y.AF p.AF
 rz : CY y.AF
 n : y.AB.n = p.AB.n
 t : ∀ t, t < p.AB.n → Ds (y.AB.get t) (p.AB.get t) ∧ CY (y.AB.get t)
theorem HJ.same {y p : TPg} (h : HJ y p) : aP y = aP p := by
 unfold aP
 rw [h.r.L, E8 h.n fun i hi => (h.t i hi).1.L]
theorem Ds.Om {y x : Sl TIn} (h : Ds y x) (hx : Om x) : Om y := ⟨h.n ▸ hx.n, fun k hk => by rw [h.g k (h.n ▸ hk)]; exact hx.i k (h.n ▸ hk)⟩
theorem HJ.Ib {y p : TPg} (h : HJ y p) (hp : Ib p) : Ib y where
 rn := h.r.n ▸ hp.rn
 tn := h.n ▸ hp.tn
 ln t ht := by rw [(h.t t (h.n ▸ ht)).1.n]; exact hp.ln t (h.n ▸ ht)
 ins t ht k hk := by
  have := (h.t t (h.n ▸ ht)).1
  rw [this.g k (this.n ▸ hk)]; exact hp.ins t (h.n ▸ ht) k (this.n ▸ hk)
 rz := h.rz
 lz t ht := (h.t t (h.n ▸ ht)).2
theorem w_f10 (p : TPg) (hp : Ib p) (hP : EZ (aP p)) : D_f10.wp p fun y => HJ y p := by
 obtain ⟨_, h8, hr8, _, hl⟩ := Bi hP
 refine of_wp ?_
 simp only [tt_f10]
 refine wC (NC p.AF hp.rz (by omega)) fun (y : Sl TRg) hy => ?_
 refine DN (tt := tt_f10_3) (fun x : X_f10_3 => x.Sp = p.AB ∧ x.UF = p.AB.n ∧ ∃ k : Nat, x.Pv = k ∧ k ≤ p.AB.n ∧ x.BC.AF = y ∧ x.BC.AB.n = k ∧ ∀ t, t < k → Ds (x.BC.AB.get t) (p.AB.get t) ∧ CY (x.BC.AB.get t))
  (fun x => (p.AB.n - x.Pv).toNat) (fun _ y => HJ y p) (fun D x hI hD => ?_) ⟨rfl, rfl, 0, rfl, by omega, rfl, rfl, fun t ht => by omega⟩
 obtain ⟨e0, e1, k, e2, hk, e3, hn, hg⟩ := hI
 obtain ⟨q11, q12, q13, m2, ⟨mr, mt⟩⟩ := x
 simp only at e0 e1 e2 e3 hn hg hD
 subst e0 e1 e2 e3 hn
 simp only [tt_f10_3]
 refine AE ilI (fun h => ?_) fun h => ?_
 · have hkm : mt.n < p.AB.n := by omega
   refine wN (A2 hkm) ?_
   rw [Int.toNat_natCast]
   refine wC (MF (p.AB.get mt.n) (hp.lz _ hkm) (by have := (hl _ hkm).1; omega)) fun (z : Sl TIn) hz => ?_
   refine wN (by simp [room]; omega) ?_
   rw [Cu hkm hp.tn]
   refine QV (x' := ⟨p.AB, p.AB.n, ((mt.n + 1 : Nat) : Int), m2, ⟨mr, snoc mt z⟩⟩) (hD _ ⟨rfl, rfl, mt.n + 1, rfl, hkm, rfl, rfl, fun t ht => ?_⟩ (by simp only; omega)) ?_
   · by_cases e : t = mt.n
     · subst e; simp only [Gs]; exact hz
     · have : t < mt.n := by omega
       simp only [Gr this]; exact hg t this
   · refine congrArg (fun g => X_f10_3.mk p.AB p.AB.n ((mt.n + 1 : Nat) : Int) m2 ⟨mr, ⟨false, mt.n + 1, g⟩⟩) (funext fun i => ?_)
     cases Nat.blt i mt.n <;> rfl
 · exact ⟨hy.1, hy.2, by simp only; omega, fun t ht => hg t (by omega)⟩
structure Ee (b : Nat) (t : TTh) : Prop where
 k0 : 0 ≤ t.AG
 k1 : t.AG < 18446744073709551616
 rg : ∀ j, 0 ≤ t.Ae j ∧ t.Ae j < 18446744073709551616
 sz : CY t.Seen
 sb : t.Seen.n ≤ b
theorem PL (b : Nat) : Ee b ⟨0, 0, 0, 0, 0, fun _ => 0, ⟨true, 0, fun _ => 0⟩⟩ := ⟨by decide, by decide, fun _ => ⟨Int.le_refl 0, (by decide : (0 : Int) < 18446744073709551616)⟩, fun _ => rfl, Nat.zero_le _⟩
structure WG (p : TPg) (b : Nat) (f : TFa) : Prop where
 cp : HJ f.p p
 tn : f.threads.n = p.AB.n
 tw : ∀ t, t < f.threads.n → Ee b (f.threads.get t)
 rn : f.rings.n = p.AF.n
 rw : ∀ i, i < f.rings.n → (f.rings.get i).nil = false ∧ QS (p.AF.get i) (f.rings.get i).x
def aF (f : TFa) : MS := ⟨f.threads.L.map aT, f.rings.L.map fun r => aR r.x, f.now, f.reads, f.ended⟩
def aS (s : TSt) : MS := ⟨s.AB.L.map aT, s.AF.L.map JM, s.Ec, s.Reads, s.BO⟩
theorem rg_of {p : TPg} (hP : EZ (aP p)) {i : Nat} (h : i < p.AF.n) : BB (p.AF.get i) = true := (Bi hP).2.2.2.1 _ (Sl.Ct.2 ⟨i, h, rfl⟩)
theorem w_f1g (p : TPg) (hp : Ib p) (b : Nat) :
 D_f1g.wp p fun y => (EZ (aP p) ∧ y.2 = 0 ∧ y.1.nil = false ∧ WG p b y.1.x ∧ aF y.1.x = CA (aP p)) ∨ (¬ EZ (aP p) ∧ y.2 = 1 ∧ y.1.nil = true) := by
 refine of_wp ?_
 simp only [tt_f1g]
 refine wC (w_f3c p hp) fun (y : Bool) hy => ?_
 refine AE bnI (fun h => .inr ⟨fun k => h (hy.2 k), rfl, rfl⟩) fun h => ?_
 have hP := hy.1 (Classical.byContradiction h)
 obtain ⟨_, h8, hr8, _, hl⟩ := Bi hP
 refine wC (w_f10 p hp hP) fun (q : TPg) hq => ?_
 refine wN (by simp [upto, room, Bw]; omega) ?_
 rw [Int.toNat_natCast]
 refine DN (tt := tt_f1g_5) (fun x : X_f1g_5 => x.MM = p.AF ∧ x.HX = p.AF.n ∧ ∃ k : Nat, x.DS = k ∧ k ≤ p.AF.n ∧ x.Cn.p = q ∧ x.Cn.threads = ⟨false, p.AB.n, fun _ => ⟨0, 0, 0, 0, 0, fun _ => 0, ⟨true, 0, fun _ => 0⟩⟩⟩ ∧ x.Cn.now = 0 ∧ x.Cn.reads = 0 ∧ x.Cn.ended = false ∧
  x.Cn.rings.n = k ∧ ∀ i, i < k → (x.Cn.rings.get i).nil = false ∧ QS (p.AF.get i) (x.Cn.rings.get i).x ∧ aR (x.Cn.rings.get i).x = HE (p.AF.get i))
  (fun x => (p.AF.n - x.DS).toNat) (fun _ y => (EZ (aP p) ∧ y.2 = 0 ∧ y.1.nil = false ∧ WG p b y.1.x ∧ aF y.1.x = CA (aP p)) ∨ (¬ EZ (aP p) ∧ y.2 = 1 ∧ y.1.nil = true)) (fun D x hI hD => ?_) ⟨rfl, rfl, 0, rfl, by omega, rfl, rfl, rfl, rfl, rfl, rfl, fun t ht => by omega⟩
 obtain ⟨e0, e1, k, e2, hk, e3, e4, e5, e6, e7, hn, hg⟩ := hI
 obtain ⟨q21, q22, q23, ⟨mp, mt, mr, mn, md, me⟩⟩ := x
 simp only at e0 e1 e2 e3 e4 e5 e6 e7 hn hg hD
 subst e0 e1 e2 e3 e4 e5 e6 e7 hn
 simp only [tt_f1g_5]
 refine AE ilI (fun h => ?_) fun h => ?_
 · have hkm : mr.n < p.AF.n := by omega
   refine wN (A2 hkm) ?_
   rw [Int.toNat_natCast]
   refine wC (w_f2r (p.AF.get mr.n) (rg_of hP hkm)) fun (z : Bx TRr × Int) hz => ?_
   refine wN (by simp [room]; omega) ?_
   rw [Cu hkm hp.rn]
   refine QV (x' := ⟨p.AF, p.AF.n, ((mr.n + 1 : Nat) : Int), ⟨mp, _, snoc mr z.1, 0, 0, false⟩⟩) (hD _ ⟨rfl, rfl, mr.n + 1, rfl, hkm, rfl, rfl, rfl, rfl, rfl, rfl, fun t ht => ?_⟩ (by simp only; omega)) ?_
   · by_cases e : t = mr.n
     · subst e; simp only [Gs]; exact ⟨hz.2.1, hz.2.2⟩
     · have : t < mr.n := by omega
       simp only [Gr this]; exact hg t this
   · refine congrArg (fun g => X_f1g_5.mk p.AF p.AF.n ((mr.n + 1 : Nat) : Int) ⟨mp, _, ⟨false, mr.n + 1, g⟩, 0, 0, false⟩) (funext fun i => ?_)
     cases Nat.blt i mr.n <;> rfl
 · have hrn : mr.n = p.AF.n := by omega
   refine .inl ⟨hP, rfl, rfl, ⟨hq, rfl, fun t _ => PL b, hrn, fun i hi => ⟨(hg i hi).1, (hg i hi).2.1⟩⟩, ?_⟩
   unfold aF CA
   simp only [MS.mk.injEq, and_true]
   refine ⟨?_, ?_⟩
   · simp only [aP, List.map_map]
     exact E8 rfl fun i _ => rfl
   · exact E8 hrn fun i hi => (hg i (hrn ▸ hi)).2.2
theorem M6 {α β γ : Type} {s : Sl α} {t : Sl β} {f : α → γ} {g : β → γ} (h : s.L.map f = t.L.map g) : s.n = t.n ∧ ∀ i, i < t.n → f (s.get i) = g (t.get i) := by
 have hn : s.n = t.n := by simpa using congrArg List.length h
 refine ⟨hn, fun i hi => ?_⟩
 have h2 := congrArg (fun l => l[i]?) h
 simp only [List.getElem?_map, Sl.D2 s (hn ▸ hi), Sl.D2 t hi, Option.map_some, Option.some.injEq] at h2
 exact h2
theorem w_f28 (a b : Sl Int) (h : a.L = b.L) (hm : a.n ≤ maxLen) : D_f28.wp (a, b) fun y => y = true := by
 obtain ⟨hn, hg⟩ := Sl.Q6 h
 refine of_wp ?_
 simp only [tt_f28]
 refine AE (p := (a.n : Int) ≠ b.n) (by rw [bnI, ieI]) (fun e => absurd (by rw [hn]) e) fun _ => ?_
 refine GM (fun k => (⟨a, b, (k : Nat)⟩ : X_f28_4)) a.n (fun _ => True) _ (fun D hJ => ?_) (fun D k hk hD => ?_)
 · simp only [tt_f28_4, BF, Nat.lt_irrefl, decide_false, CE]; rfl
 · have hk2 : k < b.n := hn ▸ hk
   simp only [tt_f28_4, BF, hk, decide_true, Cd, A2 hk, A2 hk2, BD, Int.toNat_natCast, Cu hk hm, hg k hk]
   exact Aq (fun e => absurd (ieI.2 rfl) (bnI.1 e)) fun _ => hD trivial
theorem w_f29 (a b : Sl TSo) (h : a.L = b.L) (hm : a.n ≤ maxLen) : D_f29.wp (a, b) fun y => y = true := by
 obtain ⟨hn, hg⟩ := Sl.Q6 h
 refine of_wp ?_
 simp only [tt_f29]
 refine AE (p := (a.n : Int) ≠ b.n) (by rw [bnI, ieI]) (fun e => absurd (by rw [hn]) e) fun _ => ?_
 refine GM (fun k => (⟨a, b, (k : Nat)⟩ : X_f29_4)) a.n (fun _ => True) _ (fun D hJ => ?_) (fun D k hk hD => ?_)
 · simp only [tt_f29_4, BF, Nat.lt_irrefl, decide_false, CE]; rfl
 · have hk2 : k < b.n := hn ▸ hk
   simp only [tt_f29_4, BF, hk, decide_true, Cd, A2 hk, A2 hk2, BD, Int.toNat_natCast, Cu hk hm, hg k hk]
   exact Aq (fun e => absurd (by simp only [ieI.2, Bool.and_true]) (bnI.1 e)) fun _ => hD trivial
theorem w_f1h (a b : TRs) (h : JM a = JM b) (hm : a.AV.n ≤ maxLen) (hs : a.Al.n ≤ maxLen) : D_f1h.wp (a, b) fun y => y = true := by
 simp only [JM, MR.mk.injEq] at h
 obtain ⟨h1, h2, h3, h4⟩ := h
 obtain ⟨hn, hg⟩ := Sl.Q6 h2
 refine of_wp ?_
 simp only [tt_f1h]
 refine Aq (fun e => absurd (ieI.2 h1) (bnI.1 e)) fun _ => Aq (fun e => absurd (by rw [h3]; simp) (bnI.1 e)) fun _ => Aq (fun e => absurd (ieI.2 (by rw [hn])) (bnI.1 e)) fun _ => ?_
 refine wC (w_f29 _ _ h4 hs) fun (y : Bool) hy => ?_
 subst hy
 refine Aq (fun e => absurd rfl (bnI.1 e)) fun _ => of_wp ?_
 simp only [tt_f1h_3]
 refine GM (fun k => (⟨a, b, (k : Nat)⟩ : X_f1h_4)) a.AV.n (fun _ => True) _ (fun D hJ => ?_) (fun D k hk hD => ?_)
 · simp only [tt_f1h_4, BF, Nat.lt_irrefl, decide_false, CE]; rfl
 · have hk2 : k < b.AV.n := hn ▸ hk
   simp only [tt_f1h_4, BF, hk, decide_true, Cd, A2 hk, A2 hk2, BD, Int.toNat_natCast, Cu hk hm, hg k hk]
   exact Aq (fun e => absurd (ieI.2 rfl) (bnI.1 e)) fun _ => hD trivial
theorem w_f4a (a b : TTh) (h : aT a = aT b) (hm : a.Seen.n ≤ maxLen) : D_f4a.wp (a, b) fun y => y = true := by
 simp only [aT, MT.mk.injEq] at h
 obtain ⟨h1, h2, h3, h4, h5, h6, h7⟩ := h
 refine of_wp ?_
 simp only [tt_f4a, h1, h2, h3, h4, h5, h6]
 have ee : ∀ z : Int, AW z z = true := fun z => ieI.2 rfl
 simp only [ee, Cd, Bool.and_self]
 exact wC (w_f28 _ _ h7 hm) fun (y : Bool) hy => hy
structure VU (m : MS) : Prop where
 tn : m.AB.length ≤ maxLen
 rn : m.AF.length ≤ maxLen
 ts : ∀ t ∈ m.AB, t.Seen.length ≤ maxLen
 rs : ∀ r ∈ m.AF, r.AV.length ≤ maxLen ∧ r.Al.length ≤ maxLen
theorem w_fi (a b : TSt) (h : aS a = aS b) (ha : VU (aS a)) : D_fi.wp (a, b) fun y => y = true := by
 have atn : a.AB.n ≤ maxLen := by have := ha.tn; simpa [aS] using this
 have arn : a.AF.n ≤ maxLen := by have := ha.rn; simpa [aS] using this
 have ats : ∀ t, t < a.AB.n → (a.AB.get t).Seen.n ≤ maxLen := fun t ht => by
  have := ha.ts _ (List.mem_map.2 ⟨_, Sl.Ct.2 ⟨t, ht, rfl⟩, rfl⟩)
  simpa [aT] using this
 have ars : ∀ t, t < a.AF.n → (a.AF.get t).AV.n ≤ maxLen ∧ (a.AF.get t).Al.n ≤ maxLen := fun t ht => by
  have := ha.rs _ (List.mem_map.2 ⟨_, Sl.Ct.2 ⟨t, ht, rfl⟩, rfl⟩)
  simpa [JM] using this
 simp only [aS, MS.mk.injEq] at h
 obtain ⟨h1, h2, h3, h4, h5⟩ := h
 obtain ⟨n1, g1⟩ := M6 h1
 obtain ⟨n2, g2⟩ := M6 h2
 refine of_wp ?_
 simp only [tt_fi]
 refine Aq (fun e => absurd (ieI.2 (by rw [n1])) (bnI.1 e)) fun _ => Aq (fun e => absurd (ieI.2 (by rw [n2])) (bnI.1 e)) fun _ => Aq (fun e => absurd (ieI.2 h3) (bnI.1 e)) fun _ =>
  Aq (fun e => absurd (ieI.2 h4) (bnI.1 e)) fun _ => Aq (fun e => absurd (by rw [h5]; simp) (bnI.1 e)) fun _ => of_wp ?_
 simp only [tt_fi_3]
 refine GM (fun k => (⟨a, b, (k : Nat)⟩ : X_fi_4)) a.AB.n (fun _ => True) _ (fun D hJ => ?_) (fun D k hk hD => ?_)
 · simp only [tt_fi_4, BF, Nat.lt_irrefl, decide_false, CE]
   refine of_wp ?_
   simp only [tt_fi_8]
   refine GM (fun k => (⟨a, b, (k : Nat)⟩ : X_fi_9)) a.AF.n (fun _ => True) _ (fun D hJ => ?_) (fun D k hk hD => ?_)
   · simp only [tt_fi_9, BF, Nat.lt_irrefl, decide_false, CE]; rfl
   · have hk2 : k < b.AF.n := n2 ▸ hk
     simp only [tt_fi_9, BF, hk, decide_true, Cd, A2 hk, A2 hk2, BD, Int.toNat_natCast, Cu hk arn]
     refine wC (w_f1h _ _ (g2 k hk2) (ars k hk).1 (ars k hk).2) fun (y : Bool) hy => ?_
     subst hy
     exact Aq (fun e => absurd rfl (bnI.1 e)) fun _ => hD trivial
 · have hk2 : k < b.AB.n := n1 ▸ hk
   simp only [tt_fi_4, BF, hk, decide_true, Cd, A2 hk, A2 hk2, BD, Int.toNat_natCast, Cu hk atn]
   refine wC (w_f4a _ _ (g1 k hk2) (ats k hk)) fun (y : Bool) hy => ?_
   subst hy
   exact Aq (fun e => absurd rfl (bnI.1 e)) fun _ => hD trivial
theorem Ib.c {p : TPg} (h : Ib p) {t : Nat} (ht : t < p.AB.n) : Om (p.AB.get t) := ⟨h.ln t ht, h.ins t ht⟩
theorem Nr {p : TPg} (hP : EZ (aP p)) {t : Nat} (ht : t < p.AB.n) : codeOk (p.AB.get t) := by
 obtain ⟨h1, h2⟩ := (Bi hP).2.2.2.2 t ht
 refine ⟨h1, fun k hk => ?_⟩
 have := G6 (h2 k hk)
 exact ⟨this.1, fun hh => by have := this.2.1 ⟨hh.1, hh.2.1⟩; omega⟩
theorem Cy {P : Program} {R : Type} {p : Prop} {t : TT P R} {Q : R → Prop} (h : t.wp Q) : (TT.side p t).wp Q := h
theorem HP (r : TRr) : D_f1y.wp r fun y => y = r.AA.tail := CF rfl
theorem FA (j : Int) (c : TRc) : D_fy.wp (j, c) fun y => y = true ↔ 0 ≤ j ∧ j < c.AD.n := by
 refine CF ?_
 simp only [tt_fy]
 exact AE leI (fun h => wN (by simp) (EP ilI ⟨fun k => ⟨h, k⟩, fun k => k.2⟩)) fun h => Bn fun k => h k.1
theorem Jz (j : Int) (r : TRr) (h0 : 0 ≤ j) (h1 : j < r.AA.AD.n) : D_fq.wp (j, r) fun y => y = r.AA.AD.get j.toNat := by
 refine CF ?_
 simp only [tt_fq]
 refine wC (FA j r.AA) fun (y : Bool) hy => ?_
 refine AE bnI (fun h => absurd (hy.2 ⟨h0, h1⟩) h) fun _ => of_wp ?_
 simp only [tt_fq_3, Nat.zero_add]
 exact wN (by rw [ibI]; exact ⟨h0, h1⟩) (wN (by simp) (wN (by simp) rfl))
theorem Q5 {t : TTh} {y : Sl Int} (h : Ds y t.Seen) : aT ⟨t.At, t.Phase, t.Ring, t.Status, t.AG, t.Ae, y⟩ = aT t := by
 simp only [aT, h.L]
theorem OI (x : TSs) (h : 0 < x.l.n) (hn : x.l.n * 24 ≤ 140737488351232) : D_f20.wp x fun y => Ds y x.l ∧ CY y := by
 refine CF ?_
 simp only [tt_f20]
 refine wC (KN ⟨x.l.n, x.l.get⟩ h hn) fun (y : Sl TSo) hy => wN (by simp) ⟨⟨hy.1.n, hy.1.g⟩, hy.2⟩
theorem Gn (c : TRg) (r : TRr) (hc : BB c = true) (h : QS c r) : D_f1l.wp r fun y => JM y = aR r ∧ CY y.AV ∧ CY y.Al := by
 have hf := DD hc
 have hn := h.hn
 have ln := h.ln
 refine CF ?_
 simp only [tt_f1l]
 refine wN (by simp [h.sn]) ?_
 refine wC (Ie ⟨r.AA.AD.n, r.AA.AD.get⟩ (by show 0 < r.AA.AD.n; omega) (by show r.AA.AD.n * 8 ≤ _; omega)) fun (y : Sl Int) hy => ?_
 refine wC (OI r.s.x (by omega) (by omega)) fun (z : Sl TSo) hz => wN (by simp [h.sn]) (Cy (wN (by simp) ?_))
 have e : y.L = r.AA.AD.L := hy.1.L
 refine ⟨?_, hy.2, hz.2⟩
 show (⟨r.AA.tail, y.L, r.closed, z.L⟩ : MR) = _
 rw [e, hz.1.L]; rfl
structure Tu (b : Nat) (s : TSt) : Prop where
 ts : ∀ t, t < s.AB.n → Ee b (s.AB.get t)
 rs : ∀ i, i < s.AF.n → CY (s.AF.get i).AV ∧ CY (s.AF.get i).Al
theorem Kx (p : TPg) (b : Nat) (f : TFa) (hb : b * 8 ≤ 140737488351232) (hP : EZ (aP p)) (h : WG p b f) : D_f1.wp f fun y => aS y = aF f ∧ Tu b y := by
 obtain ⟨h1, h8, hr8, _, hl⟩ := Bi hP
 have htn := h.tn
 have hrn := h.rn
 refine CF ?_
 simp only [tt_f1]
 refine wC (F3 ⟨f.threads.n, f.threads.get⟩ (by show 0 < f.threads.n; omega) (by show f.threads.n * 128 ≤ _; omega)) fun (y : Sl TTh) hy => wN (by simp) (wN (by simp) ?_)
 have yn : y.n = f.threads.n := hy.1.n
 have yg : ∀ i, i < f.threads.n → y.get i = f.threads.get i := hy.1.g
 refine DN (tt := tt_f1_5) (fun x : X_f1_5 => x.NU = f.threads.n ∧ x.Ah = f ∧ ∃ k : Nat, x.E4 = k ∧ k ≤ f.threads.n ∧ x.Bv.AF = ⟨true, 0, fun _ => ⟨0, ⟨true, 0, fun _ => 0⟩, false, ⟨true, 0, fun _ => ⟨0, 0, 0⟩⟩⟩⟩ ∧ x.Bv.Ec = f.now ∧ x.Bv.Reads = f.reads ∧ x.Bv.BO = f.ended ∧
  x.Bv.AB.n = f.threads.n ∧ ∀ t, t < f.threads.n → aT (x.Bv.AB.get t) = aT (f.threads.get t) ∧ CY (x.Bv.AB.get t).Seen ∧ (x.Bv.AB.get t).Seen.n ≤ b)
  (fun x => (f.threads.n - x.E4).toNat) (fun _ y => aS y.1 = aF f ∧ Tu b y.1) (fun D x hI hD => ?_)
  ⟨by rw [← yn], rfl, 0, rfl, Nat.zero_le _, rfl, rfl, rfl, rfl, yn, fun t ht => by show aT (y.get t) = _ ∧ CY (y.get t).Seen ∧ (y.get t).Seen.n ≤ b; rw [yg t ht]; exact ⟨rfl, (h.tw t ht).sz, (h.tw t ht).sb⟩⟩
 obtain ⟨e0, e1, k, e4, hk, e5, e6, e7, e8, hn, hg⟩ := hI
 obtain ⟨q29, q30, o0, ⟨mt, mr, mn, md, me⟩⟩ := x
 simp only at e0 e1 e4 e5 e6 e7 e8 hn hg hD
 subst e0 e1 e4 e5 e6 e7 e8
 simp only [tt_f1_5]
 refine AE ilI (fun hlt => ?_) fun hlt => ?_
 · have hkm : k < mt.n := by omega
   have hkf : k < o0.threads.n := by omega
   simp only [A2 hkm, BD, Int.toNat_natCast, Nat.zero_add]
   obtain ⟨g1, g2, g3⟩ := hg k hkf
   refine wN (by simp) ?_
   refine wC (Ky _ g2 (by omega)) fun (z : Sl Int) hz => wN rfl (wN (by simp) (wN (by simp) ?_))
   have e2 : IntKind.i64.wrap ((k : Int) + 1) = ((k + 1 : Nat) : Int) := by rw [wrap64] <;> omega
   rw [e2]
   refine QV (x' := ⟨_, ((k + 1 : Nat) : Int), o0, ⟨Il mt k ⟨(mt.get k).At, (mt.get k).Phase, (mt.get k).Ring, (mt.get k).Status, (mt.get k).AG, (mt.get k).Ae, z⟩, _, _, _, _⟩⟩) (hD _ ⟨rfl, rfl, k + 1, rfl, by omega, rfl, rfl, rfl, rfl, hn, fun i hi => ?_⟩ (by simp only; omega)) ?_
   · by_cases e : i = k
     · subst e; simp only [NM]; exact ⟨(Q5 hz.1).trans g1, hz.2, by rw [hz.1.n]; exact g3⟩
     · simp only [NL e]; exact hg i hi
   · refine congrArg (fun g => X_f1_5.mk _ ((k + 1 : Nat) : Int) o0 ⟨⟨mt.nil, mt.n, g⟩, _, _, _, _⟩) (funext fun i => ?_)
     cases Nat.beq i k <;> rfl
 · refine Cy (of_wp ?_)
   simp only [tt_f1_9]
   refine DN (tt := tt_f1_10) (fun x : X_f1_10 => x.UD = o0.rings.n ∧ x.Ah = o0 ∧ ∃ k : Nat, x.DR = k ∧ k ≤ o0.rings.n ∧ x.Bv.AB = mt ∧ x.Bv.Ec = o0.now ∧ x.Bv.Reads = o0.reads ∧ x.Bv.BO = o0.ended ∧
    x.Bv.AF.n = k ∧ ∀ i, i < k → JM (x.Bv.AF.get i) = aR (o0.rings.get i).x ∧ CY (x.Bv.AF.get i).AV ∧ CY (x.Bv.AF.get i).Al)
    (fun x => (o0.rings.n - x.DR).toNat) (fun _ y => aS y.1 = aF o0 ∧ Tu b y.1) (fun D x hI hD => ?_) ⟨rfl, rfl, 0, rfl, Nat.zero_le _, rfl, rfl, rfl, rfl, rfl, fun t ht => by omega⟩
   obtain ⟨e0, e1, k, e4, hk, e5, e6, e7, e8, hrn2, hrg⟩ := hI
   obtain ⟨q29, q30, o0, ⟨xt, xr, xn, xd, xe⟩⟩ := x
   simp only at e0 e1 e4 e5 e6 e7 e8 hrn2 hrg hD
   subst e0 e1 e4 e5 e6 e7 e8 hrn2
   simp only [tt_f1_10]
   refine AE ilI (fun hlt => ?_) fun hlt => ?_
   · have hkr : xr.n < o0.rings.n := by omega
     obtain ⟨hnil, hw⟩ := h.rw _ hkr
     simp only [A2 hkr, BD, Int.toNat_natCast, Nat.zero_add]
     refine wN (by simp [hnil]) ?_
     refine wC (Gn _ _ (rg_of hP (by omega)) hw) fun (z : TRs) hz => wN (by simp [room]; omega) (wN (by simp [hnil]; omega) (Cy ?_))
     have e2 : IntKind.i64.wrap ((xr.n : Int) + 1) = ((xr.n + 1 : Nat) : Int) := by rw [wrap64] <;> omega
     rw [e2]
     refine QV (x' := ⟨_, ((xr.n + 1 : Nat) : Int), o0, ⟨xt, snoc xr z, _, _, _⟩⟩) (hD _ ⟨rfl, rfl, xr.n + 1, rfl, by omega, rfl, rfl, rfl, rfl, rfl, fun i hi => ?_⟩ (by simp only; omega)) ?_
     · by_cases e : i = xr.n
       · subst e; simp only [Gs]; exact hz
       · have : i < xr.n := by omega
         simp only [Gr this]; exact hrg i this
     · refine congrArg (fun g => X_f1_10.mk _ ((xr.n + 1 : Nat) : Int) o0 ⟨xt, ⟨false, xr.n + 1, g⟩, _, _, _⟩) (funext fun i => ?_)
       cases Nat.blt i xr.n <;> rfl
   · have hkk : xr.n = o0.rings.n := by omega
     refine wN (by simp) ?_
     have htn2 : xt.n = o0.threads.n := by assumption
     refine ⟨?_, fun t ht => ?_, fun i hi => (hrg i hi).2⟩
     · show aS ⟨xt, xr, o0.now, o0.reads, o0.ended⟩ = aF o0
       unfold aF aS
       simp only [MS.mk.injEq, and_true]
       exact ⟨E8 htn2 fun i hi => (hg i hi).1, E8 hkk fun i hi => (hrg i (hkk ▸ hi)).1⟩
     · change t < xt.n at ht
       obtain ⟨g1, g2, g3⟩ := hg t (htn2 ▸ ht)
       have hw := h.tw t (htn2 ▸ ht)
       have k1 := congrArg MT.AG g1
       have k2 := congrArg MT.Ae g1
       change (xt.get t).AG = (o0.threads.get t).AG at k1
       change (xt.get t).Ae = (o0.threads.get t).Ae at k2
       exact ⟨by show 0 ≤ (xt.get t).AG; rw [k1]; exact hw.k0, by show (xt.get t).AG < _; rw [k1]; exact hw.k1, by show ∀ j, 0 ≤ (xt.get t).Ae j ∧ (xt.get t).Ae j < _; rw [k2]; exact hw.rg, g2, g3⟩
theorem w_f42 (x : Int) : D_f42.wp x fun y => y = true ↔ 18 ≤ x ∧ x ≤ 25 := by
 refine of_wp ?_
 simp only [tt_f42, TT.wp, leI, ilI, ieI, bnI, ibI, Bool.and_eq_true, Bool.false_eq_true, true_iff, false_iff]
 omega
theorem Fg {a : Int} (h : B0 a) : (BitVec.ofInt (IntKind.bits .u64) a).toNat = a.toNat := by
 obtain ⟨h0, h1⟩ := h
 rw [BitVec.toNat_ofInt]
 show (a % ((2 ^ 64 : Nat) : Int)).toNat = a.toNat
 rw [Int.emod_eq_of_lt h0 (by exact h1)]
theorem Cw {a : Int} (h : B0 a) : a.toNat < 2 ^ 64 := by
 obtain ⟨h0, h1⟩ := h
 have : (2 : Nat) ^ 64 = 18446744073709551616 := by decide
 omega
theorem Ks {n : Nat} (h : n < 2 ^ 64) : IntKind.u64.wrap (n : Int) = n := by
 have : (2 : Nat) ^ 64 = 18446744073709551616 := by decide
 exact Au (by omega) (by omega)
theorem JG {a b : Int} (ha : B0 a) (hb : B0 b) : Vm.bits .and IntKind.u64 a b = ((a.toNat &&& b.toNat : Nat) : Int) := by
 simp only [Vm.bits, BitVec.toNat_and, Fg ha, Fg hb]
 exact Ks (Nat.and_lt_two_pow _ (Cw hb))
theorem Ny {a b : Int} (ha : B0 a) (hb : B0 b) : Vm.bits .or IntKind.u64 a b = ((a.toNat ||| b.toNat : Nat) : Int) := by
 simp only [Vm.bits, BitVec.toNat_or, Fg ha, Fg hb]
 exact Ks (Nat.or_lt_two_pow (Cw ha) (Cw hb))
theorem Nx {a b : Int} (ha : B0 a) (hb : B0 b) : Vm.bits .xor IntKind.u64 a b = ((a.toNat ^^^ b.toNat : Nat) : Int) := by
 simp only [Vm.bits, BitVec.toNat_xor, Fg ha, Fg hb]
 exact Ks (Nat.xor_lt_two_pow (Cw ha) (Cw hb))
theorem U3 {b : Int} (hb : B0 b) : Vm.bits .and IntKind.u64 b 63 = b % 64 := by
 rw [JG hb (by unfold B0; decide)]
 have : b.toNat &&& 63 = b.toNat % 64 := Nat.and_two_pow_sub_one_eq_mod b.toNat 6
 show ((b.toNat &&& 63 : Nat) : Int) = _
 rw [this]
 have := hb.1
 omega
theorem w_f4d (b : Bool) : D_f4d.wp b fun y => y = if b = true then 1 else 0 := by
 refine of_wp ?_
 simp only [tt_f4d]
 exact Aq (fun h => by rw [if_pos h]; rfl) fun h => by rw [if_neg h]; rfl
theorem w_f3e (a b : Int) (ha : B0 a) (hb : B0 b) : D_f3e.wp (a, b) fun y => y = if b = 0 then 0 else a / b := by
 refine of_wp ?_
 simp only [tt_f3e]
 refine AE ieI (fun h => by rw [if_pos h]; rfl) fun h => wN (by simpa [AW] using h) ?_
 rw [if_neg h]
 show IntKind.u64.wrap (Int.tdiv a b) = _
 rw [Int.tdiv_eq_ediv_of_nonneg ha.1]
 have h2 : a / b ≤ a := Int.ediv_le_self _ ha.1
 have h3 : 0 ≤ a / b := Int.ediv_nonneg ha.1 hb.1
 have := ha.2
 exact Au h3 (by omega)
theorem w_f47 (a b : Int) (ha : B0 a) : D_f47.wp (a, b) fun y => y = if b = 0 then 0 else a % b := by
 refine of_wp ?_
 simp only [tt_f47]
 refine AE ieI (fun h => by rw [if_pos h]; rfl) fun h => wN (by simpa [AW] using h) ?_
 rw [if_neg h]
 exact Int.tmod_eq_emod_of_nonneg ha.1
theorem TB (a b : Int) : KT 11 a b = IntKind.u64.wrap (a * 2 ^ (b % 64).toNat) := rfl
theorem TA (a b : Int) : KT 12 a b = a / 2 ^ (b % 64).toNat := rfl
theorem w_f4e (op a b : Int) (ha : B0 a) (hb : B0 b) (h3 : 3 ≤ op) (h14 : op ≤ 14) : D_f4e.wp (op, (a, b)) fun y => y.1 = KT op a b := by
 refine of_wp ?_
 simp only [tt_f4e]
 have hm : (b % 64).toNat ≤ 63 := by omega
 have hmin : min (b % 64).toNat (IntKind.bits .u64) = (b % 64).toNat := Nat.min_eq_left (by show _ ≤ 64; omega)
 refine AE ieI (fun h => ?_) fun n3 => AE ieI (fun h => ?_) fun n4 => AE ieI (fun h => ?_) fun n5 => AE ieI (fun h => ?_) fun n6 => AE ieI (fun h => ?_) fun n7 => AE ieI (fun h => ?_) fun n8 =>
  AE ieI (fun h => ?_) fun n9 => AE ieI (fun h => ?_) fun n10 => AE ieI (fun h => ?_) fun n11 => AE ieI (fun h => ?_) fun n12 => AE ieI (fun h => ?_) fun n13 => AE ieI (fun h => ?_) fun n14 => by omega
 · subst h; rfl
 · subst h; rfl
 · subst h; rfl
 · subst h
   exact wC (w_f3e a b ha hb) fun (y : Int) hy => hy
 · subst h
   exact wC (w_f47 a b ha) fun (y : Int) hy => hy
 · subst h
   exact JG ha hb
 · subst h
   exact Ny ha hb
 · subst h
   exact Nx ha hb
 · subst h
   show shl IntKind.u64 a (Vm.bits .and IntKind.u64 b 63) = KT 11 a b
   rw [TB, U3 hb, shl, hmin]
 · subst h
   show shr IntKind.u64 a (Vm.bits .and IntKind.u64 b 63) = KT 12 a b
   rw [TA, U3 hb, shr, hmin, Int.fdiv_eq_ediv_of_nonneg]
   exact Int.le_of_lt (Int.pow_pos (by decide))
 · subst h
   refine wC (w_f4d (Bq a b)) fun (y : Int) hy => ?_
   subst hy
   show (if Bq a b = true then (1 : Int) else 0) = if a < b then 1 else 0
   simp only [ilI]
 · subst h
   refine wC (w_f4d (AW a b)) fun (y : Int) hy => ?_
   subst hy
   show (if AW a b = true then (1 : Int) else 0) = if a = b then 1 else 0
   simp only [ieI]
theorem LY {op a b : Int} (ha : B0 a) (hb : B0 b) : B0 (KT op a b) := by
 have hd : B0 (if b = 0 then 0 else a / b) := by
  split
  · exact Cq
  · exact ⟨Int.ediv_nonneg ha.1 hb.1, by have := Int.ediv_le_self b ha.1; have := ha.2; omega⟩
 have hr : B0 (if b = 0 then 0 else a % b) := by
  split
  · exact Cq
  · rename_i h
    have h1 : 0 < b := by have := hb.1; omega
    exact ⟨Int.emod_nonneg _ h, by have := Int.emod_lt_of_pos a h1; have := hb.2; omega⟩
 have hn : ∀ {n : Nat}, n < 2 ^ 64 → B0 (n : Int) := fun h => by
  have : (2 : Nat) ^ 64 = 18446744073709551616 := by decide
  exact ⟨Int.natCast_nonneg _, by omega⟩
 have it : ∀ {c : Prop} [Decidable c] {x y : Int}, B0 x → B0 y → B0 (if c then x else y) := fun h k => by split <;> assumption
 have u1 : B0 1 := by unfold B0; decide
 have hs : B0 (a / 2 ^ (b % 64).toNat) := ⟨Int.ediv_nonneg ha.1 (Int.le_of_lt (Int.pow_pos (by decide))), by have := Int.ediv_le_self (2 ^ (b % 64).toNat) ha.1; have := ha.2; omega⟩
 unfold KT
 exact it (Hk _) (it (Hk _) (it (Hk _) (it hd (it hr (it (hn (Nat.and_lt_two_pow _ (Cw hb))) (it (hn (Nat.or_lt_two_pow (Cw ha) (Cw hb))) (it (hn (Nat.xor_lt_two_pow (Cw ha) (Cw hb))) (it (Hk _) (it hs (it (it u1 Cq) (it u1 Cq)))))))))))
theorem BJ {P : Program} {R Z : Type} {g : R → Z} {b : Bool} {p : Prop} [Decidable p] {t e : TT P R} {u v : Z} (hb : b = true ↔ p) (h1 : p → t.wp fun y => g y = u) (h2 : ¬ p → e.wp fun y => g y = v) : (TT.ite b t e).wp fun y => g y = if p then u else v :=
 AE hb (fun h => by rw [if_pos h]; exact h1 h) fun h => by rw [if_neg h]; exact h2 h
theorem Bk {a b : Bool} (h : a = true ↔ b = true) : a = b := Bool.eq_iff_iff.2 h
theorem w_f2v (k : Int) : D_f2v.wp k fun y => y = A1 k := by
 refine AU.wp.mono (Q := fun y : Bool => y = true ↔ (1 ≤ k ∧ k ≤ 4 ∨ k = 13)) (of_wp ?_) fun y hy => Bk (hy.trans Aw.symm)
 simp only [tt_f2v, TT.wp, leI, ieI, true_iff]
 omega
theorem w_f39 (k : Int) : D_f39.wp k fun y => y = CT k := by
 refine AU.wp.mono (Q := fun y : Bool => y = true ↔ (1 ≤ k ∧ k ≤ 7 ∨ k = 13)) (of_wp ?_) fun y hy => Bk (hy.trans Bs.symm)
 simp only [tt_f39]
 refine wC (w_f2v k) fun (y : Bool) hy => ?_
 subst hy
 simp only [TT.wp, leI, Aw, true_iff, Bool.false_eq_true, false_iff]
 omega
theorem w_f3f (k : Int) : D_f3f.wp k fun y => y = Co k := by
 refine AU.wp.mono (Q := fun y : Bool => y = true ↔ (8 ≤ k ∧ k ≤ 10 ∨ k = 12)) (of_wp ?_) fun y hy => Bk (hy.trans (by simp only [Co, decide_eq_true_eq]))
 simp only [tt_f3f, TT.wp, leI, ieI, true_iff]
 omega
theorem w_f2b (k : Int) : D_f2b.wp k fun y => y = ⟨#[]⟩ ↔ ¬ (1 ≤ k ∧ k ≤ 15) := by
 refine of_wp ?_
 simp only [tt_f2b]
 refine AE ilI (fun h => ⟨fun _ => by omega, fun _ => rfl⟩) fun h1 => AE ilI (fun h => ⟨fun _ => by omega, fun _ => rfl⟩) fun h2 => of_wp ?_
 simp only [tt_f2b_3]
 have hn : D_f3w.wp PUnit.unit fun y => y.n = 15 ∧ ∀ i, i < 15 → y.get i ≠ ⟨#[]⟩ := by
  refine of_wp ?_
  simp only [tt_f3w]
  refine ⟨rfl, fun i hi => ?_⟩
  rcases (by omega : i = 0 ∨ i = 1 ∨ i = 2 ∨ i = 3 ∨ i = 4 ∨ i = 5 ∨ i = 6 ∨ i = 7 ∨ i = 8 ∨ i = 9 ∨ i = 10 ∨ i = 11 ∨ i = 12 ∨ i = 13 ∨ i = 14) with e | e | e | e | e | e | e | e | e | e | e | e | e | e | e <;> subst e <;> exact fun h => by cases h
 refine wC hn fun (y : Sl ByteArray) hy => ?_
 have hw : IntKind.i64.wrap (k - 1) = k - 1 := wrap64 (by omega) (by omega)
 rw [hw]
 exact wN (by rw [ibI, hy.1]; omega) ⟨fun h => absurd h (hy.2 _ (by omega)), fun h => absurd ⟨by omega, by omega⟩ h⟩
def KG (e : TEv) : TEv := ⟨e.Thread, e.Kind, if CT e.Kind = true then e.Ring else 0, if A1 e.Kind = true then e.AG else 0, if Co e.Kind = true then e.Value else 0⟩
theorem w_f11 (e : TEv) : D_f11.wp e fun y => y = KG e := by
 refine of_wp ?_
 simp only [tt_f11]
 refine wC (w_f39 e.Kind) fun (y : Bool) hy => ?_
 subst hy
 have h5 : ∀ r t z, D_f11_5.wp (⟨⟨e.Thread, e.Kind, r, t, e.Value⟩, z⟩ : X_f11_5) fun y => y = ⟨e.Thread, e.Kind, r, t, if Co e.Kind = true then e.Value else 0⟩ := fun r t z => by
  refine of_wp ?_
  simp only [tt_f11_5]
  refine wC (w_f3f e.Kind) fun (y : Bool) hy => ?_
  subst hy
  exact AE bnI (fun h => by rw [if_neg h]; rfl) fun h => by rw [if_pos (Classical.byContradiction h)]; rfl
 have h3 : ∀ r z, D_f11_3.wp (⟨⟨e.Thread, e.Kind, r, e.AG, e.Value⟩, z⟩ : X_f11_3) fun y => y = ⟨e.Thread, e.Kind, r, if A1 e.Kind = true then e.AG else 0, if Co e.Kind = true then e.Value else 0⟩ := fun r z => by
  refine of_wp ?_
  simp only [tt_f11_3]
  refine wC (w_f2v e.Kind) fun (y : Bool) hy => ?_
  subst hy
  exact AE bnI (fun h => by rw [if_neg h]; exact h5 _ _ _) fun h => by rw [if_pos (Classical.byContradiction h)]; exact h5 _ _ _
 unfold KG
 exact AE bnI (fun h => by rw [if_neg h]; exact h3 _ _) fun h => by rw [if_pos (Classical.byContradiction h)]; exact h3 _ _
theorem Cg {e : TEv} : Br e = true ↔ (1 ≤ e.Kind ∧ e.Kind ≤ 15) ∧ (0 ≤ e.Thread ∧ e.Thread ≤ 7) ∧ (0 ≤ e.Ring ∧ e.Ring ≤ 7) ∧ e.AG < 4611686018427387904 ∧
 (CT e.Kind = true ∨ e.Ring = 0) ∧ (A1 e.Kind = true ∨ e.AG = 0) ∧ (Co e.Kind = true ∨ e.Value = 0) := by
 simp only [Br, decide_eq_true_eq]
theorem Tl {e : TEv} : ((AW e.Thread (KG e).Thread) && ((AW e.Kind (KG e).Kind) && ((AW e.Ring (KG e).Ring) && ((AW e.AG (KG e).AG) && ((AW e.Value (KG e).Value) && true))))) = true ↔
 (CT e.Kind = true ∨ e.Ring = 0) ∧ (A1 e.Kind = true ∨ e.AG = 0) ∧ (Co e.Kind = true ∨ e.Value = 0) := by
 simp only [KG, Bool.and_eq_true, ieI, true_and, and_true]
 cases CT e.Kind <;> cases A1 e.Kind <;> cases Co e.Kind <;> simp
theorem w_f3a (e : TEv) : D_f3a.wp e fun y => y = Br e := by
 refine AU.wp.mono (Q := fun y : Bool => y = true ↔ Br e = true) (of_wp ?_) fun y hy => Bk hy
 simp only [tt_f3a]
 refine wC (w_f2b e.Kind) fun (y : ByteArray) hy => ?_
 refine AE (p := 1 ≤ e.Kind ∧ e.Kind ≤ 15) (by rw [bnI, NN]; exact (not_congr hy).trans Decidable.not_not) (fun h1 => ?_) fun h1 => Bn fun k => h1 (Cg.1 k).1
 refine wC (w_f11 e) fun (y : TEv) hy => ?_
 subst hy
 refine AE Tl (fun h2 => AE leI (fun h3 => AE ilI (fun h4 => AE leI (fun h5 => AE ilI (fun h6 => EP ilI ?_) fun h => ?_) fun h => ?_) fun h => ?_) fun h => ?_) fun h => ?_
 · rw [Cg]; exact ⟨fun h => ⟨h1, by omega, by omega, h, h2⟩, fun h => h.2.2.2.1⟩
 all_goals refine Bn fun k => ?_
 all_goals have k := Cg.1 k
 · omega
 · omega
 · omega
 · omega
 · exact h k.2.2.2.2
def aA (a : TAk) : MA := ⟨a.Kind, a.Ring, a.Mode, a.Reader, a.AG, a.Value⟩
theorem w_f2t (k : Int) : D_f2t.wp k fun y => y = EV k := by
 refine of_wp ?_
 simp only [tt_f2t, EV]
 exact BJ (g := id) ieI (fun _ => rfl) fun _ => BJ (g := id) ieI (fun _ => rfl) fun _ => BJ (g := id) ieI (fun _ => rfl) fun _ => BJ (g := id) ieI (fun _ => rfl) fun _ => BJ (g := id) ieI (fun _ => rfl) fun _ =>
  BJ (g := id) ieI (fun _ => rfl) fun _ => BJ (g := id) ieI (fun _ => rfl) fun _ => BJ (g := id) ieI (fun _ => rfl) fun _ => BJ (g := id) ieI (fun _ => rfl) fun _ => BJ (g := id) ieI (fun _ => rfl) fun _ => BJ (g := id) ieI (fun _ => rfl) fun _ => rfl
theorem w_fj (a : TAk) (e : TEv) : D_fj.wp (a, e) fun y => y = CM (aA a) e := by
 refine of_wp ?_
 simp only [tt_fj]
 refine wC (w_f39 e.Kind) fun (y : Bool) hy => ?_
 subst hy
 have h4 : ∀ w : Bool, (w = true ↔ (a.Kind = 1 ∨ a.Kind = 2)) → D_fj_4.wp (⟨a, e, w⟩ : X_fj_4) fun y => y = (if e.Kind = 5 then decide ((a.Kind = 1 ∨ a.Kind = 2) ∧ a.Mode = 0)
  else if e.Kind = 6 then decide (a.Kind = 1 ∨ a.Kind = 2)
  else if e.Kind = 7 then decide ((a.Kind = 1 ∨ a.Kind = 2) ∧ a.Mode = 2)
  else if e.Kind = 2 ∨ e.Kind = 4 then decide (a.Kind = EV e.Kind ∧ a.AG = e.AG)
  else if e.Kind = 12 then decide (a.Kind = 7 ∧ a.Value = e.Value)
  else decide (a.Kind = EV e.Kind)) := fun w hw => by
  refine of_wp ?_
  simp only [tt_fj_4]
  have dd : ∀ {x y : Int} {p q : Prop} [Decidable q] {b : Bool}, (b = true ↔ p) → (q ↔ p ∧ x = y) → (TT.ite b (.ret (AW x y)) (.ret false) : TT Tryz.prog R_fj).wp fun z => z = decide q := fun {x y p q _ b} hb h =>
   AE hb (fun k => Bk (ieI.trans ⟨fun e => decide_eq_true (h.2 ⟨k, e⟩), fun e => (h.1 (of_decide_eq_true e)).2⟩)) fun k => (decide_eq_false fun e => k (h.1 e).1).symm
  have tk : (TT.call con_f2t e.Kind fun (y1 : R_f2t) => .ite (AW a.Kind y1) (.ret (AW a.AG e.AG)) (.ret false) : TT Tryz.prog R_fj).wp fun z => z = decide (a.Kind = EV e.Kind ∧ a.AG = e.AG) := by
   refine wC (w_f2t e.Kind) fun (y : Int) hy => ?_
   subst hy
   exact dd ieI Iff.rfl
  refine BJ (g := id) ieI (fun _ => dd hw Iff.rfl) fun _ => BJ (g := id) ieI (fun _ => Bk (hw.trans (by simp))) fun _ => BJ (g := id) ieI (fun _ => dd hw Iff.rfl) fun _ => ?_
  refine AE ieI (fun h => ?_) fun h2 => AE ieI (fun h => ?_) fun h4 => ?_
  · rw [if_pos (.inl h)]; exact tk
  · rw [if_pos (.inr h)]; exact tk
  · rw [if_neg (by omega)]
    refine BJ (g := id) ieI (fun _ => dd ieI Iff.rfl) fun _ => of_wp ?_
    simp only [tt_fj_16]
    refine wC (w_f2t e.Kind) fun (y : Int) hy => ?_
    subst hy
    exact Bk (ieI.trans (by simp))
 have h3 : (CT e.Kind = true → a.Ring = e.Ring) → D_fj_3.wp (⟨a, e⟩ : X_fj_3) fun y => y = CM (aA a) e := fun hr => by
  have hh : (!CT e.Kind || decide (a.Ring = e.Ring)) = true := by
   cases q : CT e.Kind
   · rfl
   · simpa using hr q
  unfold CM
  show D_fj_3.wp _ fun y => y = ((!CT e.Kind || decide (a.Ring = e.Ring)) && _)
  rw [hh, Bool.true_and]
  refine of_wp ?_
  simp only [tt_fj_3]
  exact AE ieI (fun h => h4 true (by simp [h])) fun h => h4 _ (by rw [ieI]; omega)
 refine Aq (fun h => AE (p := a.Ring ≠ e.Ring) (by rw [bnI, ieI]) (fun hn => ?_) fun hn => h3 fun _ => Classical.byContradiction hn) fun h => h3 fun k => absurd k h
 unfold CM
 have : (!CT e.Kind || decide ((aA a).Ring = e.Ring)) = false := by rw [h]; exact decide_eq_false hn
 rw [this]; rfl
theorem Io (g : Nat → Int) (i v : Int) : (fun k => cond (Nat.beq k i.toNat) v (g k)) = ES g i v := by
 funext k
 unfold ES
 by_cases h : k = i.toNat
 · subst h; simp
 · rw [Jx h, if_neg h]; rfl
theorem BT {g : Nat → Int} {i v : Int} (hg : ∀ j, B0 (g j)) (hv : B0 v) : ∀ j, B0 (ES g i v j) := fun j => by
 unfold ES; split
 · exact hv
 · exact hg j
theorem Ee.with {b : Nat} {t : TTh} (h : Ee b t) (a : Int) {g : Nat → Int} (hg : ∀ j, B0 (g j)) : Ee b ⟨a, t.Phase, t.Ring, t.Status, t.AG, g, t.Seen⟩ := ⟨h.k0, h.k1, hg, h.sz, h.sb⟩
theorem w_f36 (i : TIn) (t : TTh) (b : Nat) (hi : UQ i) (hr : B9 i = true) (ho : i.Op ≤ 17) (ht : Ee b t) (ha : 0 ≤ t.At ∧ t.At < 1000) :
 D_f36.wp (i, t) fun y => aT y = EW i (aT t) ∧ Ee b y := by
 have hf := BK hr
 have hA : A6 i.A 8 = true := by rw [ibI]; omega
 have hB : A6 i.B 8 = true := by rw [ibI]; omega
 have hC : A6 i.C 8 = true := by rw [ibI]; omega
 have hw : IntKind.i64.wrap (t.At + 1) = t.At + 1 := wrap64 (by omega) (by omega)
 refine of_wp ?_
 simp only [tt_f36, hA, hB, hC, hw, Io]
 have nx : (TT.ret (TTh.mk (t.At + 1) t.Phase t.Ring t.Status t.AG t.Ae t.Seen) : TT Tryz.prog R_f36).wp fun y => aT y = { aT t with At := t.At + 1 } ∧ Ee b y := ⟨rfl, ht.with _ ht.rg⟩
 have jm : i.Op ≠ 1 → (TT.ret (TTh.mk (IntKind.i64.wrap i.K) t.Phase t.Ring t.Status t.AG t.Ae t.Seen) : TT Tryz.prog R_f36).wp fun y => aT y = { aT t with At := i.K } ∧ Ee b y := fun h => by
  have := hf.2.2.2.2.2.1 h
  rw [wrap64 (by omega) (by omega)]
  exact ⟨rfl, ht.with _ ht.rg⟩
 have e0 : (aT t).At = t.At := rfl
 have e1 : (aT t).Ae = t.Ae := rfl
 unfold EW
 simp only [e0, e1]
 refine AE ieI (fun h => ?_) fun n1 => AE ieI (fun h => ?_) fun n2 => AE ieI (fun h => ?_) fun n15 => AE ieI (fun h => ?_) fun n16 => AE ieI (fun h => ?_) fun n17 => ?_
 · rw [if_pos h]; exact wN rfl ⟨rfl, ht.with _ (BT ht.rg hi.1)⟩
 · rw [if_neg n1, if_pos h]; exact wN rfl (wN rfl ⟨rfl, ht.with _ (BT ht.rg (ht.rg _))⟩)
 · rw [if_neg n1, if_neg n2, if_pos (.inl h)]; exact jm n1
 · rw [if_neg n1, if_neg n2]
   refine wN rfl (AE (p := t.Ae i.A.toNat = 0) (by rw [h]; simp [AW]) (fun q => ?_) fun q => ?_)
   · rw [if_pos (.inr (.inl ⟨h, q⟩))]; exact jm n1
   · rw [if_neg (by omega), if_neg (by omega)]; exact nx
 · rw [if_neg n1, if_neg n2]
   refine wN rfl (AE (p := t.Ae i.A.toNat ≠ 0) (by rw [h]; simp [AW]) (fun q => ?_) fun q => ?_)
   · rw [if_pos (.inr (.inr ⟨h, q⟩))]; exact jm n1
   · rw [if_neg (by omega), if_neg (by omega)]; exact nx
 · rw [if_neg n1, if_neg n2, if_neg (by omega), if_pos (by omega)]
   refine wN rfl (wN rfl (wC (w_f4e i.Op _ _ (ht.rg _) (ht.rg _) (by omega) (by omega)) fun (y : Int × Bool) hy => wN rfl ?_))
   rw [hy]
   exact ⟨rfl, ht.with _ (BT ht.rg (LY (ht.rg _) (ht.rg _)))⟩
theorem Mm {l : List TIn} {t : MT} (h : ¬ (t.At < l.length ∧ (gI l t.At).Op ≤ 17)) : ∀ n, Ed l n t = t
 | 0 => rfl
 | n + 1 => by unfold Ed; rw [if_neg h]
theorem Jm {l : List TIn} {t : MT} (h : t.At < l.length ∧ (gI l t.At).Op ≤ 17) (n : Nat) : Ed l (n + 1) t = Ed l n (EW (gI l t.At) t) := by
 show (if _ then _ else _) = _
 rw [if_pos h]
structure WD (l : Sl TIn) (i : TIn) : Prop where
 ok : UQ i
 ri : B9 i = true
 jm : 15 ≤ i.Op ∧ i.Op ≤ 17 → i.K ≤ l.n
theorem MU {l : Sl TIn} (hl : Om l) (hc : codeOk l) {a : Int} (h0 : 0 ≤ a) (h1 : a < l.n) : WD l (l.get a.toNat) := by
 have hk : a.toNat < l.n := by omega
 obtain ⟨c1, c2⟩ := hc.2 _ hk
 exact ⟨hl.i _ hk, c1, fun q => by
  have c3 : ¬ ((l.n : Int) < (l.get a.toNat).K) := fun z => c2 ⟨q.1, q.2, z⟩
  omega⟩
theorem w_f3s (i : TIn) (t : TTh) (l : Sl TIn) (hr : B9 i = true) (h0 : 0 ≤ t.At) (h1 : t.At < l.n) (hi : l.get t.At.toNat = i) (ho : 18 ≤ i.Op) : D_f3s.wp (i, t) fun y => aA y = FM l.L (aT t) := by
 have hf := BK hr
 have hA : A6 i.A 8 = true := by rw [ibI]; omega
 have hg : gI l.L (aT t).At = i := by rw [← hi]; exact H2 l h0 h1
 have hw : IntKind.i64.wrap i.K = i.K := by
  have := hf.2.2.2.2.2.1 (by omega)
  exact wrap64 (by omega) (by omega)
 refine of_wp ?_
 simp only [tt_f3s, hA, FM, hg, hw]
 rw [if_neg (by rw [Sl.Bb]; show t.At ≠ _; omega), if_neg (by omega)]
 exact BJ ieI (fun _ => wN rfl rfl) fun _ => BJ ieI (fun _ => rfl) fun _ => BJ ieI (fun _ => rfl) fun _ => BJ ieI (fun _ => rfl) fun _ => BJ ieI (fun _ => rfl) fun _ => BJ ieI (fun _ => rfl) fun _ => BJ ieI (fun _ => wN rfl rfl) fun _ => rfl
theorem w_f8_12 (l : Sl TIn) (s : TTh) (z4 : TTh) (z5 : TAk) (hl : Om l) (hc : codeOk l) (h0 : 0 ≤ s.At) (h1 : s.At ≤ l.n) :
 D_f8_12.wp (⟨l, s, z4, z5⟩ : X_f8_12) fun y => y.1 = s ∧ aA y.2 = FM l.L (aT s) := by
 refine of_wp ?_
 simp only [tt_f8_12]
 refine AE ieI (fun h => ⟨rfl, ?_⟩) fun h => ?_
 · unfold FM
   rw [if_pos (by rw [Sl.Bb]; exact h)]; rfl
 · have h2 : s.At < l.n := by omega
   have hF := MU hl hc h0 h2
   have hf := BK hF.ri
   refine wN (by rw [ibI]; omega) (wC (w_f3j _) fun (y : Bool) hy => ?_)
   refine AE hy (fun hp => ⟨rfl, ?_⟩) fun hp => wN (by rw [ibI]; omega) ?_
   · unfold FM
     rw [if_neg (by rw [Sl.Bb]; exact h)]
     have : gI l.L (aT s).At = l.get s.At.toNat := H2 l h0 h2
     rw [this, if_pos hp.2]; rfl
   · exact wC (w_f3s _ s l hF.ri h0 h2 rfl (by omega)) fun y hy => ⟨rfl, hy⟩
theorem w_f8 (l : Sl TIn) (t : TTh) (b : Nat) (hl : Om l) (hc : codeOk l) (hT : Fw l.L (aT t)) (ht : Ee b t) :
 D_f8.wp (l, t) fun y => aT y.1 = (CL l.L (aT t)).1 ∧ aA y.2 = (CL l.L (aT t)).2 ∧ Ee b y.1 := by
 have a0 : 0 ≤ t.At := hT.a0
 have a1 : t.At ≤ l.n := by have := hT.a1; simpa [aT] using this
 have p1 := hT.p1
 refine of_wp ?_
 simp only [tt_f8]
 unfold CL
 have es : (aT t).Status = t.Status := rfl
 have ep : (aT t).Phase = t.Phase := rfl
 simp only [es, ep]
 refine AE (p := t.Status ≠ 0) (by rw [bnI, ieI]) (fun h => ?_) fun hs => AE ieI (fun h => ?_) fun hp1 => AE ieI (fun h => ?_) fun hp2 => ?_
 · rw [if_pos h]; exact ⟨rfl, rfl, ht⟩
 · have hq := p1 (by show t.Phase ≠ 0; omega)
   have h2 : t.At < l.n := by have := hq.2.1; simpa [aT] using this
   have hF := MU hl hc a0 h2
   have hf := BK hF.ri
   refine wN (by rw [ibI]; omega) (wN (by rw [ibI]; omega) ?_)
   rw [if_neg (fun k => k (Classical.byContradiction hs)), if_pos h]
   have : gI l.L (aT t).At = l.get t.At.toNat := H2 l a0 h2
   rw [this]
   exact ⟨rfl, rfl, ht⟩
 · have hq := p1 (by show t.Phase ≠ 0; omega)
   have h2 : t.At < l.n := by have := hq.2.1; simpa [aT] using this
   have hF := MU hl hc a0 h2
   have hf := BK hF.ri
   have ho : (l.get t.At.toNat).Op = 17 + t.Phase := by
    have := hq.2.2.1
    rwa [show gI l.L (aT t).At = l.get t.At.toNat from H2 l a0 h2] at this
   have hk := hf.2.2.2.2.2.1 (by omega)
   refine wN (by rw [ibI]; omega) ?_
   rw [if_neg (fun k => k (Classical.byContradiction hs)), if_neg hp1, if_pos h, wrap64 (by omega) (by omega)]
   have : gI l.L (aT t).At = l.get t.At.toNat := H2 l a0 h2
   rw [this]
   exact ⟨rfl, rfl, ht⟩
 · rw [if_neg (fun k => k (Classical.byContradiction hs)), if_neg hp1, if_neg hp2]
   simp only
   have h256 := hc.1
   refine DN (tt := tt_f8_8) (fun x : X_f8_8 => x.CD = l ∧ ∃ k : Nat, x.LC = k ∧ k ≤ 256 ∧ (0 ≤ x.BC.At ∧ x.BC.At ≤ l.n) ∧ Ed l.L (256 - k) (aT x.BC) = Ed l.L 256 (aT t) ∧ Ee b x.BC)
    (fun x => (256 - x.LC).toNat) (fun _ y => aT y.1 = Ed l.L 256 (aT t) ∧ aA y.2 = FM l.L (Ed l.L 256 (aT t)) ∧ Ee b y.1) (fun D x hI hD => ?_) ⟨rfl, 0, rfl, by omega, ⟨a0, a1⟩, rfl, ht⟩
   obtain ⟨l', q, s, z4, z5⟩ := x
   obtain ⟨e1, k, e2, hk, hA, hrun, hw⟩ := hI
   simp only at e1 e2 hA hrun hw hD
   subst e1 e2
   simp only [tt_f8_8]
   have fin : (¬ ((aT s).At < l'.L.length ∧ (gI l'.L (aT s).At).Op ≤ 17) ∨ k = 256) → D_f8_12.wp (⟨l', s, z4, z5⟩ : X_f8_12) fun y => aT y.1 = Ed l'.L 256 (aT t) ∧ aA y.2 = FM l'.L (Ed l'.L 256 (aT t)) ∧ Ee b y.1 := fun h => by
    have he : Ed l'.L 256 (aT t) = aT s := by
     rw [← hrun]
     rcases h with h | h
     · exact Mm h _
     · rw [h]; rfl
    rw [he]
    refine (w_f8_12 l' s z4 z5 hl hc hA.1 hA.2).mono fun y hy => ?_
    rw [hy.1]
    exact ⟨rfl, hy.2, hw⟩
   refine AE ilI (fun hlt => AE ieI (fun h => fin (.inl fun z => ?_)) fun h => ?_) fun hlt => fin (.inr (by omega))
   · have := z.1; rw [Sl.Bb] at this; change s.At < _ at this; omega
   · have h2 : s.At < l'.n := by omega
     have hF := MU hl hc hA.1 h2
     have hf := BK hF.ri
     have hg : gI l'.L (aT s).At = l'.get s.At.toNat := H2 l' hA.1 h2
     refine wN (by rw [ibI]; omega) (wC (w_f42 _) fun (y : Bool) hy => ?_)
     refine AE hy (fun h => fin (.inl fun z => ?_)) fun h => of_wp ?_
     · rw [hg] at z; omega
     · simp only [tt_f8_10]
       have h17 : (l'.get s.At.toNat).Op ≤ 17 := by omega
       refine wN (by rw [ibI]; omega) (wC (w_f36 _ s b hF.ok hF.ri h17 hw (by omega)) fun (y : TTh) hy => of_wp ?_)
       simp only [tt_f8_11]
       have e2 : IntKind.i64.wrap ((k : Int) + 1) = ((k + 1 : Nat) : Int) := by rw [wrap64] <;> omega
       rw [e2]
       have KA : 0 ≤ y.At ∧ y.At ≤ l'.n := by
        have := NH (i := l'.get s.At.toNat) (t := aT s) (n := l'.n) hA.1 h2 (fun q => (hf.2.2.2.2.2.1 q).1) hF.jm
        rw [← hy.1] at this; exact this
       refine hD _ ⟨rfl, k + 1, rfl, by omega, KA, ?_, hy.2⟩ (by simp only; omega)
       have hst : (aT s).At < l'.L.length ∧ (gI l'.L (aT s).At).Op ≤ 17 := ⟨by rw [Sl.Bb]; exact h2, by rw [hg]; exact h17⟩
       rw [← hrun, show 256 - k = (256 - (k + 1)) + 1 by omega, Jm hst, hg, hy.1]
theorem Ig (x : Sl Int) (h : CY x) (hn : x.n * 8 ≤ 140737488351232) : D_f1w.wp x fun y => Ds y x ∧ CY y := by
 refine of_wp ?_
 simp only [tt_f1w]
 refine Aq (fun e => ⟨⟨(h e).symm, fun i hi => by have := h e; omega⟩, fun _ => rfl⟩) fun _ => wN (room_le hn) ⟨⟨?_, fun i _ => rfl⟩, fun e => ?_⟩
 · exact Nat.zero_add _
 · simp only [Bool.cond_self, Bool.false_eq_true] at e
theorem w_f38 (l : Sl TIn) (t : TTh) (b : Nat) (hb : b * 8 ≤ 140737488351232) (hl : Om l) (hc : codeOk l) (hT : Fw l.L (aT t)) (ht : Ee b t) :
 D_f38.wp (l, t) fun y => aT y.1 = (CL l.L (aT t)).1 ∧ aA y.2.1 = (CL l.L (aT t)).2 ∧ Ee b y.1 ∧ y.2.2 = 0 := by
 refine of_wp ?_
 simp only [tt_f38]
 refine wC (w_fv l t hl ht.k0) fun (y : Bool) hy => ?_
 refine AE bnI (fun h => absurd (hy.2 ⟨hc, hT⟩) h) fun _ => ?_
 have hsb := ht.sb
 refine wC (Ig t.Seen ht.sz (by omega)) fun (z : Sl Int) hz => ?_
 have he : aT ⟨t.At, t.Phase, t.Ring, t.Status, t.AG, t.Ae, z⟩ = aT t := Q5 hz.1
 have hn := hz.1.n
 refine wC (w_f8 l ⟨t.At, t.Phase, t.Ring, t.Status, t.AG, t.Ae, z⟩ b hl hc (by rw [he]; exact hT) ⟨ht.k0, ht.k1, ht.rg, hz.2, by show z.n ≤ b; omega⟩) fun (y : TTh × TAk) hy => ?_
 rw [he] at hy
 exact ⟨hy.1, hy.2.1, hy.2.2, rfl⟩
theorem Ee.grow {b b' : Nat} {t : TTh} (h : Ee b t) (k : b ≤ b') : Ee b' t := ⟨h.k0, h.k1, h.rg, h.sz, Nat.le_trans h.sb k⟩
theorem LX {i : TIn} {t : MT} {e : TEv} {v : Int} (h1 : e.Kind ≠ 1) (h3 : e.Kind ≠ 3) (h14 : e.Kind ≠ 14) (h15 : e.Kind ≠ 15) : BW i t e v =
 ⟨t.At + 1, 0, 0, t.Status, 0, (if e.Kind = 2 then ES t.Ae i.B 0 else if e.Kind = 4 then ES (ES t.Ae i.A v) i.B 0 else if e.Kind = 5 then ES t.Ae i.B 1 else if e.Kind = 6 then ES t.Ae i.B 2 else if e.Kind = 7 then ES t.Ae i.B 3 else if e.Kind = 8 then ES t.Ae i.A e.Value else if e.Kind = 9 then ES t.Ae i.A e.Value else if e.Kind = 10 then ES (ES t.Ae i.A e.Value) i.B 0 else if e.Kind = 11 then ES t.Ae i.B 1 else t.Ae), if e.Kind = 12 then t.Seen ++ [e.Value] else t.Seen⟩ := by
 unfold BW
 rw [if_neg h1, if_neg h3, if_neg h14, if_neg h15]
theorem Pp {α : Type} (s : Sl α) (x : α) : (snoc s x).L = s.L ++ [x] := by
 apply List.ext_getElem
 · simp [snoc]
 · intro i h1 h2
   have h1 : i < s.n + 1 := by simpa [snoc] using h1
   simp only [Sl.HC]
   by_cases e : i < s.n
   · rw [Gr e, List.getElem_append_left (by simpa using e), Sl.HC]
   · have : i = s.n := by omega
     subst this
     rw [Gs, List.getElem_append_right (by simp)]
     simp
theorem w_fo (i : TIn) (t : TTh) (e : TEv) (v : Int) (b : Nat) (hb : b * 8 + 8 ≤ 140737488351232) (hr : B9 i = true) (ht : Ee b t) (ha : 0 ≤ t.At ∧ t.At < 1000) (hv : B0 v) (hev : B0 e.Value)
 (h1 : e.Kind ≠ 1) (h3 : e.Kind ≠ 3) (h14 : e.Kind ≠ 14) (h15 : e.Kind ≠ 15) :
 D_fo.wp (i, (e, (v, t))) fun y => aT y = BW i (aT t) e v ∧ Ee (b + 1) y := by
 have hf := BK hr
 have hA : A6 i.A 8 = true := by rw [ibI]; omega
 have hB : A6 i.B 8 = true := by rw [ibI]; omega
 have hw : IntKind.i64.wrap (t.At + 1) = t.At + 1 := wrap64 (by omega) (by omega)
 have u1 : B0 1 := by unfold B0; decide
 have u2 : B0 2 := by unfold B0; decide
 have u3 : B0 3 := by unfold B0; decide
 have hsb := ht.sb
 rw [LX h1 h3 h14 h15]
 refine of_wp ?_
 simp only [tt_fo, hA, hB, Io]
 have h23 : ∀ (g : Nat → Int) (sn : Sl Int), (∀ j, B0 (g j)) → CY sn → sn.n ≤ b + 1 →
  D_fo_23.wp (⟨⟨t.At, t.Phase, t.Ring, t.Status, t.AG, g, sn⟩⟩ : X_fo_23) fun y => aT y = ⟨t.At + 1, 0, 0, t.Status, 0, g, sn.L⟩ ∧ Ee (b + 1) y := fun g sn hg hs hn => by
  refine of_wp ?_
  simp only [tt_fo_23, hw]
  exact ⟨rfl, ⟨Int.le_refl 0, (by decide : (0 : Int) < 18446744073709551616), hg, hs, hn⟩⟩
 have e0 : (aT t).At = t.At := rfl
 have e1 : (aT t).Ae = t.Ae := rfl
 have e2 : (aT t).Seen = t.Seen.L := rfl
 have e3 : (aT t).Status = t.Status := rfl
 simp only [e0, e1, e2, e3]
 have go : ∀ (g : Nat → Int), (∀ j, B0 (g j)) → D_fo_23.wp (⟨⟨t.At, t.Phase, t.Ring, t.Status, t.AG, g, t.Seen⟩⟩ : X_fo_23) fun y => aT y = ⟨t.At + 1, 0, 0, t.Status, 0, g, t.Seen.L⟩ ∧ Ee (b + 1) y :=
  fun g hg => h23 g t.Seen hg ht.sz (by omega)
 refine AE ieI (fun h => ?_) fun n2 => AE ieI (fun h => ?_) fun n4 => AE ieI (fun h => ?_) fun n5 => AE ieI (fun h => ?_) fun n6 => AE ieI (fun h => ?_) fun n7 => AE ieI (fun h => ?_) fun n8 => AE ieI (fun h => ?_) fun n9 =>
  AE ieI (fun h => ?_) fun n10 => AE ieI (fun h => ?_) fun n11 => AE ieI (fun h => ?_) fun n12 => ?_
 · simp only [h, if_true, Int.reduceEq, if_false]; exact wN rfl (go _ (BT ht.rg Cq))
 · simp only [h, if_true, Int.reduceEq, if_false]; exact wN rfl (wN rfl (go _ (BT (BT ht.rg hv) Cq)))
 · simp only [h, if_true, Int.reduceEq, if_false]; exact wN rfl (go _ (BT ht.rg u1))
 · simp only [h, if_true, Int.reduceEq, if_false]; exact wN rfl (go _ (BT ht.rg u2))
 · simp only [h, if_true, Int.reduceEq, if_false]; exact wN rfl (go _ (BT ht.rg u3))
 · simp only [h, if_true, Int.reduceEq, if_false]; exact wN rfl (go _ (BT ht.rg hev))
 · simp only [h, if_true, Int.reduceEq, if_false]; exact wN rfl (go _ (BT ht.rg hev))
 · simp only [h, if_true, Int.reduceEq, if_false]; exact wN rfl (wN rfl (go _ (BT (BT ht.rg hev) Cq)))
 · simp only [h, if_true, Int.reduceEq, if_false]; exact wN rfl (go _ (BT ht.rg u1))
 · simp only [h, if_true, Int.reduceEq, if_false]
   refine wN (by simp [room]; omega) ?_
   have := h23 t.Ae (snoc t.Seen e.Value) ht.rg (fun z => by cases z) (by show t.Seen.n + 1 ≤ b + 1; omega)
   rw [Pp] at this
   exact this
 · rw [if_neg n2, if_neg n4, if_neg n5, if_neg n6, if_neg n7, if_neg n8, if_neg n9, if_neg n10, if_neg n11, if_neg n12]
   exact go _ ht.rg
theorem TX {l : List TIn} {t n : MT} {a : MA} {e : TEv} (hq : RD l t n a) (hf : Uv a e) (hk : 1 ≤ e.Kind ∧ e.Kind ≤ 15) (h14 : e.Kind ≠ 14) (h15 : e.Kind ≠ 15) : n.At < l.length := by
 have b1 := hf.f1; have b2 := hf.f2; have b3 := hf.f3; have b4 := hf.f4; have b5 := hf.f5; have b8 := hf.f8; have b9 := hf.f9; have b10 := hf.f10; have b12 := hf.f12; have b13 := hf.f13
 have hd : a.Kind = 1 ∨ a.Kind = 2 ∨ a.Kind = 3 ∨ (4 ≤ a.Kind ∧ a.Kind ≤ 7) ∨ a.Kind = 10 ∨ a.Kind = 11 := by omega
 rcases hd with h | h | h | h | h | h
 · exact (hq.k1 h).2.1
 · exact (hq.k2 h).2.1
 · exact (hq.k3 h).2.1
 · exact (hq.kn h).2
 · exact (hq.kp h).2.1
 · exact (hq.kr h).2.1
def Rk (l : List TIn) (t : MT) (e : TEv) : Int :=
 if Br e = false then 3 else if (CL l t).2.Kind = 0 ∨ CM (CL l t).2 e = false then 11 else 0
theorem w_f2a (rs : List TRg) (l : Sl TIn) (t : TTh) (e : TEv) (v : Int) (b : Nat) (hb : b * 8 + 8 ≤ 140737488351232) (hl : Om l) (hc : codeOk l) (hcr : Hj rs l.L) (hT : Fw l.L (aT t)) (ht : Ee b t) (hv : B0 v) (hev : B0 e.Value) (het : 0 ≤ e.AG) :
 D_f2a.wp (l, (t, (e, v))) fun y => y.2 = Rk l.L (aT t) e ∧ (Rk l.L (aT t) e = 0 → aT y.1 = BW (gI l.L (CL l.L (aT t)).1.At) (CL l.L (aT t)).1 e v ∧ Ee (b + 1) y.1) := by
 refine of_wp ?_
 simp only [tt_f2a]
 refine wC (w_f38 l t b (by omega) hl hc hT ht) fun (y : TTh × TAk × Int) hy => ?_
 obtain ⟨s, a, er⟩ := y
 obtain ⟨hs, ha, hw, h0⟩ := hy
 simp only at hs ha hw h0
 subst h0
 refine AE (p := (0 : Int) ≠ 0) (by rw [bnI, ieI]) (fun h => absurd rfl h) fun _ => ?_
 refine wC (w_f3a e) fun (y : Bool) hy => ?_
 subst hy
 unfold Rk
 rw [← ha]
 refine AE bnI (fun h => ?_) fun h => ?_
 · have h : Br e = false := by simpa using h
   rw [if_pos h]; exact ⟨rfl, fun k => absurd k (by decide)⟩
 · have hR : Br e = true := Classical.byContradiction h
   rw [if_neg (by rw [hR]; decide)]
   refine AE ieI (fun hk => ?_) fun hk => wC (w_fj a e) fun (y : Bool) hy => ?_
   · rw [if_pos (.inl hk)]; exact ⟨rfl, fun k => absurd k (by decide)⟩
   · subst hy
     refine AE bnI (fun hf => ?_) fun hf => of_wp ?_
     · rw [if_pos (.inr (by simpa using hf))]; exact ⟨rfl, fun k => absurd k (by decide)⟩
     · have hF : CM (aA a) e = true := Classical.byContradiction hf
       have hk' : (aA a).Kind ≠ 0 := hk
       rw [if_neg (by rw [hF]; simp [hk'])]
       rw [← hs]
       have hff := O3 hR hF
       have hq := PH hcr hT
       rw [← ha, ← hs] at hq
       have hn := (Ml hcr hT).2
       rw [← hs] at hn
       simp only [tt_f2a_8]
       have n1 : CM (aA a) e = true := hF
       have fin : ∀ {z : MT} {x : TTh}, aT x = z → Ee (b + 1) x → (TT.ret ((x, 0) : R_f2a) : TT Tryz.prog R_f2a).wp fun y => y.2 = 0 ∧ (True → aT y.1 = z ∧ Ee (b + 1) y.1) := fun h1 h2 => ⟨rfl, fun _ => ⟨h1, h2⟩⟩
       have hre := (B7 hR)
       have tk : B0 e.AG := ⟨het, by have := hre.2.2.2.1; omega⟩
       refine AE ieI (fun h => fin (by rw [WC _ h]; rfl) ⟨tk.1, tk.2, hw.rg, hw.sz, Nat.le_succ_of_le hw.sb⟩) fun h1 => AE ieI (fun h => fin (by rw [WB _ h]; rfl) ⟨tk.1, tk.2, hw.rg, hw.sz, Nat.le_succ_of_le hw.sb⟩) fun h3 =>
        AE ieI (fun h => fin (by rw [Tn _ h]; rfl) ⟨hw.k0, hw.k1, hw.rg, hw.sz, Nat.le_succ_of_le hw.sb⟩) fun h14 => AE ieI (fun h => fin (by rw [Tm _ h]; rfl) ⟨hw.k0, hw.k1, hw.rg, hw.sz, Nat.le_succ_of_le hw.sb⟩) fun h15 => ?_
       have KA : s.At < l.n := by
        have := TX (n := aT s) hq hff hre.1 h14 h15
        simpa [aT] using this
       have a0 : 0 ≤ s.At := hn.a0
       have h256 := hc.1
       have hi := MU hl hc a0 KA
       have hg : gI l.L (aT s).At = l.get s.At.toNat := H2 l a0 KA
       rw [hg]
       refine wN (by rw [ibI]; omega) (wC (w_fo _ s e v b hb hi.ri hw (by omega) hv hev h1 h3 h14 h15) fun (y : TTh) hy => fin hy.1 hy.2)
structure RC (c : TRg) (b : Int) (r : TRr) : Prop where
 rg : BB c = true
 wf : QS c r
 inv : Dt c b (aR r)
 bb : b ≤ 4611686018427387904
section
variable {c : TRg} {b : Int} {r : TRr}
theorem RC.hn (h : RC c b r) : 1 ≤ r.AA.AD.n ∧ r.AA.AD.n ≤ 8 ∧ (r.AA.AD.n : Int) = c.AR := by
 have := DD h.rg; have := h.wf.hn; omega
theorem RC.ln (h : RC c b r) : 1 ≤ r.s.x.l.n ∧ r.s.x.l.n ≤ 64 ∧ (r.s.x.l.n : Int) = c.DP := by
 have := DD h.rg; have := h.wf.ln; omega
theorem RC.t (h : RC c b r) : 0 ≤ r.AA.tail ∧ r.AA.tail < 4611686018427387904 := by
 have h0 := h.inv.t0; have h1 := h.inv.tb; have := h.bb
 change 0 ≤ r.AA.tail at h0; change r.AA.tail < b at h1; omega
theorem RC.hd (h : RC c b r) {k : Nat} (hk : k < r.AA.AD.n) : 0 ≤ r.AA.AD.get k ∧ r.AA.AD.get k ≤ r.AA.tail ∧ r.AA.tail - r.AA.AD.get k ≤ c.DP :=
 h.inv.h0 _ (Sl.Ct.2 ⟨k, hk, rfl⟩)
theorem Mp {j : Int} (h0 : 0 ≤ j) (h1 : j < r.AA.AD.n) : hd (aR r) j = r.AA.AD.get j.toNat := G8 _ h0 h1 0
theorem Nt : IX (aR r) = r.s.x.l.n := by simp [IX, aR]
theorem Su (h : RC c b r) (t : Int) : HK (aR r) t < r.s.x.l.n := by
 have := LH h.inv h.rg t; simpa [aR] using this
theorem GU (h : RC c b r) (t : Int) : A4 (aR r) t = r.s.x.l.get (HK (aR r) t) := by
 have := Su h t
 unfold A4
 show r.s.x.l.L.getD _ _ = _
 rw [List.getD, Sl.D2 _ this]; rfl
theorem RC.slot (h : RC c b r) (t : Int) : M5 c.DP r.AA.AD.n r.AA.tail r.AA.AD.L (HK (aR r) t) (r.s.x.l.get (HK (aR r) t)) := by
 have := h.inv.sl _ _ (JV h.inv h.rg t)
 rw [GU h] at this
 simpa [aR] using this
theorem Uf (x y : Int) : Oz x y = min x y := by
 unfold Oz
 by_cases h : y < x
 · rw [ilI.2 h]; show y = _; omega
 · rw [Mo.2 (Int.not_lt.1 h)]; show x = _; omega
theorem Ug (x y : Int) : imax x y = max x y := by
 unfold imax
 by_cases h : x < y
 · rw [ilI.2 h]; show y = _; omega
 · rw [Mo.2 (Int.not_lt.1 h)]; show x = _; omega
theorem SS (x : Ar Int) (h1 : 1 ≤ x.n) (h8 : x.n ≤ 8) : D_f4.wp x fun y => (∃ k, k < x.n ∧ y = x.get k) ∧ ∀ k, k < x.n → y ≤ x.get k := by
 refine CF ?_
 simp only [tt_f4]
 refine AE ilI (fun h => by omega) fun _ => of_wp ?_
 simp only [tt_f4_3]
 refine wN (by rw [ibI]; omega) (wN (by simp) ?_)
 refine DN (tt := tt_f4_5) (fun z : X_f4_5 => z.Ah = x ∧ ∃ k : Nat, z.EA = k ∧ 1 ≤ k ∧ k ≤ x.n ∧ (∃ j, j < x.n ∧ z.BC = x.get j) ∧ ∀ j, j < k → z.BC ≤ x.get j) (fun z => (x.n - z.EA).toNat)
  (fun _ y => (∃ k, k < x.n ∧ y.1 = x.get k) ∧ ∀ k, k < x.n → y.1 ≤ x.get k) (fun D z hI hD => ?_) ⟨rfl, 1, rfl, by omega, by omega, ⟨0, by omega, by simp⟩, fun j hj => by
    have : j = 0 := by omega
    subst this; exact Int.le_refl _⟩
 obtain ⟨m, i, o⟩ := z
 obtain ⟨e0, k, e1, hk1, hk, ⟨j, hj, e2⟩, hle⟩ := hI
 simp only at e0 e1 e2 hle hD
 subst e0 e1
 simp only [tt_f4_5]
 refine AE ilI (fun h => ?_) fun h => ?_
 · have hkm : k < o.n := by omega
   have e3 : IntKind.i64.wrap ((k : Int) + 1) = ((k + 1 : Nat) : Int) := by rw [wrap64] <;> omega
   refine wN (A2 hkm) (wN (by simp) ?_)
   rw [e3, Nat.zero_add, Int.toNat_natCast, Uf]
   refine hD _ ⟨rfl, k + 1, rfl, by omega, hkm, ?_, fun i hi => ?_⟩ (by simp only; omega)
   · by_cases q : m ≤ o.get k
     · exact ⟨j, hj, by show min m _ = _; omega⟩
     · exact ⟨k, hkm, by show min m _ = _; omega⟩
   · show min m (o.get k) ≤ o.get i
     by_cases q : i = k
     · subst q; omega
     · have := hle i (by omega); omega
 · exact ⟨⟨j, hj, e2⟩, fun i hi => hle i (by omega)⟩
theorem M8 (h : RC c b r) : D_f1i.wp r.AA fun y => Ki (aR r).AV y := by
 refine CF ?_
 simp only [tt_f1i]
 have hn := h.hn
 refine wC (SS ⟨r.AA.AD.n, r.AA.AD.get⟩ hn.1 hn.2.1) fun (y : Int) hy => wN (by simp) ?_
 obtain ⟨⟨k, hk, e⟩, hle⟩ := hy
 refine ⟨Sl.Ct.2 ⟨k, hk, e.symm⟩, fun z hz => ?_⟩
 obtain ⟨i, hi, rfl⟩ := Sl.Ct.1 hz
 exact hle i hi
theorem F4 (h : RC c b r) : D_f1m.wp r fun y => y = Ex (aR r) := by
 refine CF ?_
 simp only [tt_f1m]
 refine wC (M8 h) fun (y : Int) hy => Bk ?_
 rw [J6 hy, leI, h.wf.ms, Nt]
 obtain ⟨k, hk, e⟩ := Sl.Ct.1 hy.1
 have := h.hd hk
 have := h.t
 rw [Au (by omega) (by omega), h.wf.ln]
 exact Iff.rfl
theorem C5 (r : TRr) : D_f15.wp r fun y => y = (aR r).As := CF rfl
theorem JP (j : Int) (s : TRc_L1) (a : Ar Int) : D_f14.wp (j, (s, a)) fun y => y = true ↔ 0 ≤ j ∧ j < s.AD.n := by
 refine CF ?_
 simp only [tt_f14]
 exact AE leI (fun h => EP ilI ⟨fun k => ⟨h, k⟩, fun k => k.2⟩) fun h => Bn fun k => h k.1
theorem Eg (j : Int) (h0 : 0 ≤ j) (h1 : j < r.AA.AD.n) : D_f18.wp (j, r) fun y => y = EX (aR r) j := by
 refine CF ?_
 simp only [tt_f18]
 refine wC (JP _ _ _) fun (y : Bool) hy => ?_
 refine AE bnI (fun h => absurd (hy.2 ⟨h0, h1⟩) h) fun _ => wN (by rw [ibI]; exact ⟨h0, h1⟩) (wN (by simp) (wN (by simp) ?_))
 unfold EX
 rw [Mp h0 h1]
 refine Bk ?_
 rw [decide_eq_true_eq, Nat.zero_add]
 exact ieI
theorem UI (h : RC c b r) {t : Int} (h0 : 0 ≤ t) : Int.tmod t (IntKind.u64.wrap (r.s.x.l.n : Int)) = (HK (aR r) t : Int) := by
 have := h.ln
 rw [Au (by omega) (by omega), Int.tmod_eq_emod_of_nonneg h0]
 unfold HK
 rw [Nt]
 have := Int.emod_nonneg t (b := (r.s.x.l.n : Int)) (by omega)
 omega
theorem Kc (h : RC c b r) {t : Int} (h0 : 0 ≤ t) (a : Ar TSo) (z : Int) : D_fu.wp (t, ((⟨⟨r.s.x.l.nil, r.s.x.l.n⟩, z⟩ : TSs_L0), a)) fun y => y = (HK (aR r) t, r.s.x.l.n) := by
 refine CF ?_
 simp only [tt_fu]
 have hl := h.ln
 have hp := Su h t
 rw [UI h h0, Au (by omega) (by omega)]
 refine wN (by rw [bnI, ieI]; omega) (wN (A2 hp) ?_)
 show (0 + Int.toNat _, _) = _
 rw [Int.toNat_natCast, Nat.zero_add]
theorem w_f3b {t : Int} (h0 : 0 ≤ t) (h1 : t < 4611686018427387904) : D_f3b.wp t fun y => y = 2 * t + 1 := by
 refine of_wp ?_
 simp only [tt_f3b]
 show IntKind.u64.wrap _ = _
 rw [Au (z := 2 * t) (by omega) (by omega), Au (by omega) (by omega)]
theorem M7 (h : RC c b r) {t : Int} (h0 : 0 ≤ t) (h1 : t < 4611686018427387904) : D_f1s.wp (t, r.s.x) fun y => y = decide ((A4 (aR r) t).AP = 2 * t) := by
 refine CF ?_
 simp only [tt_f1s]
 refine AE ilI (fun _ => ?_) fun h => absurd h1 h
 refine wC (Kc h h0 _ _) fun (y : Nat × Nat) hy => ?_
 subst hy
 refine wN (by simp) (wC (w_f2s t h0 (by omega)) fun (y : Int) hy => wN (by simp) ?_)
 subst hy
 rw [GU h]
 exact Bk (by rw [decide_eq_true_eq]; exact ieI)
theorem OL (h : RC c b r) {t : Int} (h0 : 0 ≤ t) : D_f27.wp (t, r) fun y => y = Hb (aR r) t := by
 have ht := h.t
 refine CF ?_
 simp only [tt_f27]
 unfold Hb
 have e : (aR r).A0 = r.AA.tail := rfl
 rw [e]
 refine AE ilI (fun hlt => ?_) fun hlt => ?_
 · refine wN (by simp [h.wf.sn]) (wC (M7 h h0 (by omega)) fun (y : Bool) hy => wN (by simp [h.wf.sn]) (Cy ?_))
   subst hy
   exact Bk (by simp only [decide_eq_true_eq]; exact ⟨fun q => ⟨hlt, q⟩, fun q => q.2⟩)
 · exact (decide_eq_false fun q => hlt q.1).symm
theorem Jy (h : RC c b r) {j t : Int} (hj0 : 0 ≤ j) (hj : j < r.AA.AD.n) (h0 : 0 ≤ t) (h1 : t < 4611686018427387904) :
 D_fn.wp (j, (t, r.s.x)) fun y => y = 0 ↔ (A4 (aR r) t).AP = 2 * t + 1 ∧ Dy (A4 (aR r) t).Left j = true := by
 have hn := h.hn
 refine CF ?_
 simp only [tt_fn]
 refine AE leI (fun q => absurd h1 (Int.not_lt.2 q)) fun _ => AE ilI (fun q => by omega) fun _ => AE leI (fun q => by rw [h.wf.rd] at q; omega) fun _ => of_wp ?_
 simp only [tt_fn_5]
 refine wC (Kc h h0 _ _) fun (y : Nat × Nat) hy => ?_
 subst hy
 rw [GU h]
 have hs := h.slot t
 generalize r.s.x.l.get (HK (aR r) t) = x at hs
 have ne : ∀ {e : Int} {q : Prop}, e ≠ 0 → ¬ q → (e = 0 ↔ q) := fun h k => ⟨fun e => absurd e h, fun e => absurd e k⟩
 refine wN (by simp) (wC (w_f3b h0 h1) fun (y : Int) hy => ?_)
 subst hy
 refine AE ilI (fun q => wN (by simp) (ne (show (9 : Int) ≠ 0 by decide) fun k => by omega)) fun q1 => wN (by simp) (wC (w_f3b h0 h1) fun (y : Int) hy => ?_)
 subst hy
 refine AE ilI (fun q => wN (by simp) (ne (show (11 : Int) ≠ 0 by decide) fun k => by omega)) fun q2 => wN (by simp) (wN (by rw [leI]; exact hj0) ?_)
 have hst : x.AP = 2 * t + 1 := by omega
 have hl := hs.held (by omega)
 have h28 : (2 : Int) ^ r.AA.AD.n ≤ 2 ^ 8 := by exact_mod_cast Nat.pow_le_pow_right (by decide) (by omega : r.AA.AD.n ≤ 8)
 have hb := PJ (x := x.Left) (j := j.toNat) (by omega) (by omega) (by omega)
 rw [show ((j.toNat : Nat) : Int) = j by omega] at hb
 refine AE (ieI.trans hb) (fun q => wN (by simp) (ne (show (11 : Int) ≠ 0 by decide) fun k => ?_)) fun q => wN (by simp) ⟨fun _ => ⟨hst, by simpa using q⟩, fun _ => rfl⟩
 rw [q] at k; exact absurd k.2 (by decide)
theorem PX (h : RC c b r) {j t : Int} (hj0 : 0 ≤ j) (hj : j < r.AA.AD.n) (h0 : 0 ≤ t) : D_f2h.wp (j, (t, r)) fun y => y = LV (aR r) j t := by
 have ht := h.t
 have hh := h.hd (k := j.toNat) (by omega)
 refine CF ?_
 simp only [tt_f2h]
 refine wC (FA j r.AA) fun (y : Bool) hy => ?_
 refine AE hy (fun _ => wN (by rw [ibI]; omega) (wN (by simp) ?_)) fun k => absurd ⟨hj0, hj⟩ k
 unfold LV
 rw [Mp hj0 hj, Nat.zero_add]
 refine AE ilI (fun hlt => wN (by simp [h.wf.sn]) ?_) fun hlt => wN (by simp) (decide_eq_false fun q => hlt q.1).symm
 have e : D_f21.wp (j, (t, r.s.x)) fun y => y = true ↔ (A4 (aR r) t).AP = 2 * t + 1 ∧ Dy (A4 (aR r) t).Left j = true := by
  refine CF ?_
  simp only [tt_f21]
  exact wC (Jy h hj0 hj h0 (by omega)) fun (y : Int) hy => ieI.trans hy
 refine wC e fun (y : Bool) hy => wN (by simp [h.wf.sn]) (Cy (wN (by simp) (Bk ?_)))
 rw [decide_eq_true_eq]
 exact hy.trans ⟨fun q => ⟨hlt, q⟩, fun q => q.2⟩
end


theorem Gt {α : Type} (s : Sl α) (k : Nat) (y : α) : (Il s k y).L = s.L.set k y := by
 apply List.ext_getElem
 · simp [Il]
 · intro i h1 h2
   rw [Sl.HC]
   by_cases e : i = k
   · subst e; rw [NM, List.getElem_set_self]
   · rw [NL e, List.getElem_set_ne (fun q => e q.symm), Sl.HC]
section
theorem J8 {x : Int} {j : Nat} (h0 : 0 ≤ x) (h1 : x < 256) (hj : j < 8) (hb : Dy x (j : Int) = true) : Vm.bits .andNot IntKind.i64 x (shl IntKind.i64 1 (j : Int)) = x - 2 ^ j ∧ 0 ≤ x - 2 ^ j := by
 have := P7 ⟨x.toNat, by omega⟩ ⟨j, hj⟩
 simp only [show ((x.toNat : Nat) : Int) = x by omega] at this
 have h2 := (Lu (n := 8) (k := j) h0 (by exact_mod_cast h1) (by omega) hj hj hb).2
 exact ⟨this hb, h2⟩
theorem It {j : Nat} (hj : j ≤ 8) : (2 : Int) ^ j ≤ 256 := by exact_mod_cast Nat.pow_le_pow_right (by decide : 0 < 2) hj
end
theorem Fc {p : TPg} {t : Int} (h0 : 0 ≤ t) (h1 : t < p.AB.n) : CO (aP p) t = (p.AB.get t.toNat).L := by
 unfold CO aP
 simp only [List.getD, List.getElem?_map]
 rw [Sl.D2 _ (by omega)]; rfl
theorem IW {p : TPg} {i : Int} (h0 : 0 ≤ i) (h1 : i < p.AF.n) : Lr (aP p) i = p.AF.get i.toNat := G8 _ h0 h1 _
theorem ID {f : TFa} {t : Int} (h0 : 0 ≤ t) (h1 : t < f.threads.n) : K0 (aF f) t = aT (f.threads.get t.toNat) := by
 unfold K0 aF
 simp only [List.getD, List.getElem?_map]
 rw [Sl.D2 _ (by omega)]; rfl
theorem Sj {f : TFa} {i : Int} (h0 : 0 ≤ i) (h1 : i < f.rings.n) : CS (aF f) i = aR (f.rings.get i.toNat).x := by
 unfold CS aF
 simp only [List.getD, List.getElem?_map]
 rw [Sl.D2 _ (by omega)]; rfl
structure Qg (e : TEv) : Prop where
 tk : B0 e.AG
 vl : B0 e.Value
section
variable {p : TPg} {B : Int} {m : MS} {e : TEv}
theorem F5 (h : Dd (aP p) B m) (f : Dh (aP p) m e) (k : CT e.Kind = true) :
 (0 ≤ e.Ring ∧ e.Ring < p.AF.n) ∧ ((Ak (aP p) m e.Thread).Kind = 2 ∨ (Ak (aP p) m e.Thread).Kind = 11 → 0 ≤ (Ak (aP p) m e.Thread).Reader ∧ (Ak (aP p) m e.Thread).Reader < (p.AF.get e.Ring.toNat).AR) ∧
   (e.Kind = 3 ∨ e.Kind = 4 → 0 ≤ (Ak (aP p) m e.Thread).Reader ∧ (Ak (aP p) m e.Thread).Reader < (p.AF.get e.Ring.toNat).AR) := by
 obtain ⟨r0, r1, r2⟩ := I5 h f k
 have hf := O3 f.re f.ft
 have r1 : e.Ring.toNat < p.AF.n := by simpa [aP] using r1
 rw [IW r0 (by omega)] at r2
 exact ⟨⟨r0, by omega⟩, r2, fun q => r2 (q.imp hf.f3 fun z => (hf.f4 z).1)⟩
theorem E5 (h : Dd (aP p) B m) (f : Dh (aP p) m e) : 0 ≤ e.Thread ∧ e.Thread < p.AB.n := by
 have h1 := f.lt
 have h2 := h.nt
 have : (aP p).AB.length = p.AB.n := by simp [aP]
 have := f.th
 omega
end
section
variable {p : TPg} {B : Int}
theorem Hx {B : Int} {m : MS} (h : Dd (aP p) B m) {t : Int} (h0 : 0 ≤ t) (h1 : t < p.AB.n) : Hj p.AF.L (p.AB.get t.toNat).L := by
 have : (aP p).AB[t.toNat]? = some (p.AB.get t.toNat).L := by
  unfold aP
  simp only [List.getElem?_map]
  rw [Sl.D2 _ (by omega)]; rfl
 exact Qw h this
end
def UV (m : MS) : Prop := ∀ r ∈ m.AF, ∀ x ∈ r.Al, B0 x.Value
theorem Sa {i : TIn} {t : MT} (hk : B0 i.K) (h : ∀ j, B0 (t.Ae j)) : ∀ j, B0 ((EW i t).Ae j) := by
 unfold EW
 repeat' split
 · exact BT h hk
 · exact BT h (h _)
 · exact h
 · exact BT h (LY (h _) (h _))
 · exact h
theorem QZ {l : List TIn} (hl : ∀ i ∈ l, B0 i.K) : ∀ (n : Nat) (t : MT), (∀ j, B0 (t.Ae j)) → 0 ≤ t.At → (∀ n' : Nat, 0 ≤ (Ed l n' t).At) → ∀ j, B0 ((Ed l n t).Ae j)
 | 0, _, h, _, _ => h
 | n + 1, t, h, h0, hA => by
   unfold Ed
   split
   · rename_i hc
     have hs : ∀ n' : Nat, 0 ≤ (Ed l n' (EW (gI l t.At) t)).At := fun n' => by rw [← Jm hc]; exact hA _
     exact QZ hl n _ (Sa (hl _ (IQ h0 hc.1)) h) (hs 0) hs
   · exact h
theorem Ot {rs : List TRg} {l : List TIn} {t : MT} (hc : Hj rs l) (hl : ∀ i ∈ l, B0 i.K) (hT : Fw l t) (h : ∀ j, B0 (t.Ae j)) : (∀ j, B0 ((CL l t).1.Ae j)) ∧ B0 (CL l t).2.Value := by
 unfold CL
 repeat' split
 · exact ⟨h, Cq⟩
 · exact ⟨h, h _⟩
 · exact ⟨h, Cq⟩
 · have hr := QZ hl 256 t h hT.a0 fun n => (Hl hc n t hT.a0 hT.a1).2.1
   refine ⟨hr, ?_⟩
   simp only [FM]
   repeat' split
   all_goals first | exact Cq | exact hr _
theorem IE {r : MR} (h : ∀ x ∈ r.Al, B0 x.Value) (t : Int) : B0 (A4 r t).Value := by
 unfold A4
 rw [List.getD_eq_getElem?_getD]
 cases q : r.Al[HK r t]? with
 | none => exact Cq
 | some x => exact h _ (List.mem_of_getElem? q)
theorem NO {m : MS} (h : UV m) (i : Int) : ∀ x ∈ (CS m i).Al, B0 x.Value := by
 unfold CS
 rw [List.getD_eq_getElem?_getD]
 cases q : m.AF[i.toNat]? with
 | none => intro x hx; cases hx
 | some x => exact h _ (List.mem_of_getElem? q)
theorem RP {r : MR} {a : MA} {e : TEv} (h : ∀ x ∈ r.Al, B0 x.Value) (ha : B0 a.Value) : ∀ x ∈ (CK r a e).Al, B0 x.Value := by
 unfold CK
 repeat' split
 · exact h
 · intro x hx
   rcases List.mem_or_eq_of_mem_set hx with q | q
   · exact h x q
   · subst q; exact ha
 · exact h
 · intro x hx
   rcases List.mem_or_eq_of_mem_set hx with q | q
   · exact h x q
   · subst q
     unfold LW
     split
     · exact Cq
     · exact IE h _
 · exact h
 · exact h
theorem M4 {P : MP} {m : MS} {e : TEv} (h : UV m) (ha : B0 (Ak P m e.Thread).Value) : UV (Ai P m e) := by
 intro r hr
 unfold Ai at hr
 simp only at hr
 split at hr
 · rcases List.mem_or_eq_of_mem_set hr with q | q
   · exact h r q
   · subst q; exact RP (NO h _) ha
 · exact h r hr
theorem Tt {P : MP} : UV (CA P) := by
 intro r hr x hx
 simp only [CA, List.mem_map] at hr
 obtain ⟨c, _, rfl⟩ := hr
 simp only [HE, List.mem_map] at hx
 obtain ⟨i, _, rfl⟩ := hx
 exact Cq
theorem Ib.k {p : TPg} (h : Ib p) {t : Nat} (ht : t < p.AB.n) : ∀ i ∈ (p.AB.get t).L, B0 i.K := fun i hi => by
 obtain ⟨j, hj, rfl⟩ := Sl.Ct.1 hi
 exact (h.ins t ht j hj).1
theorem map_set {α β : Type} (f : α → β) (l : List α) (k : Nat) (x : α) : (l.set k x).map f = (l.map f).set k (f x) := by
 apply List.ext_getElem
 · simp
 · intro i h1 h2
   simp only [List.getElem_map]
   by_cases e : k = i
   · subst e; simp
   · simp [List.getElem_set_ne e]

structure FC (p : TPg) (B : Int) (k : Nat) (f : TFa) : Prop where
 hp : Ib p
 inv : Dd (aP p) B (aF f)
 wf : WG p k f
 uv : UV (aF f)
 hB : B ≤ 2305843009213693952
 hk : k ≤ 1000000000
theorem Ef {P : Program} {R : Type} {b1 b2 : Bool} {pr : Prop} {r : R} {Q : R → Prop} (h1 : b1 = true) (h2 : b2 = true) (h : Q r) : (TT.need b1 (TT.side pr (TT.need b2 (TT.ret r))) : TT P R).wp Q := ⟨h1, h2, h⟩
section
variable {p : TPg} {B : Int} {k : Nat} {f : TFa} {e : TEv}
theorem FC.small (h : FC p B k f) : 1 ≤ p.AB.n ∧ p.AB.n ≤ 8 ∧ p.AF.n ≤ 8 := ⟨(Bi h.inv.pi).1, (Bi h.inv.pi).2.1, (Bi h.inv.pi).2.2.1⟩
theorem FC.code (h : FC p B k f) {t : Int} (h0 : 0 ≤ t) (h1 : t < p.AB.n) : Om (f.p.AB.get t.toNat) ∧ codeOk (f.p.AB.get t.toNat) ∧ (f.p.AB.get t.toNat).L = CO (aP p) t ∧ f.p.AB.n = p.AB.n := by
 have hc := h.wf.cp
 have ht : t.toNat < p.AB.n := by omega
 have hs := (hc.t t.toNat ht).1
 refine ⟨hs.Om (h.hp.c ht), ?_, ?_, hc.n⟩
 · exact Nr (p := f.p) (by rw [hc.same]; exact h.inv.pi) (by rw [hc.n]; exact ht)
 · rw [hs.L, Fc h0 h1]
theorem FC.KO (h : FC p B k f) {t : Int} (h0 : 0 ≤ t) (h1 : t < p.AB.n) : Fw (CO (aP p) t) (aT (f.threads.get t.toNat)) := by
 have ht := h.wf.tn
 have := h.inv.KO (t := t) (by simp [aF]; omega)
 rwa [ID h0 (by omega)] at this
theorem FC.ring (h : FC p B k f) {i : Int} (h0 : 0 ≤ i) (h1 : i < p.AF.n) : RC (p.AF.get i.toNat) B (f.rings.get i.toNat).x ∧ (f.rings.get i.toNat).nil = false ∧ CS (aF f) i = aR (f.rings.get i.toNat).x := by
 have hr := h.wf.rn
 have hB := h.hB
 have h2 : i.toNat < f.rings.n := by omega
 have hR := h.inv.K7 (i := i) (by simp [aP]; omega)
 rw [IW h0 h1, Sj h0 (by omega)] at hR
 obtain ⟨w1, w2⟩ := h.wf.rw _ h2
 exact ⟨⟨hR.2, w2, hR.1, by omega⟩, w1, Sj h0 (by omega)⟩
theorem Gp (t : Int) (f : TFa) : D_f1a.wp (t, f) fun y => y = true ↔ 0 ≤ t ∧ t < f.threads.n := by
 refine CF ?_
 simp only [tt_f1a]
 exact AE leI (fun h => wN (by simp) (EP ilI ⟨fun k => ⟨h, k⟩, fun k => k.2⟩)) fun h => Bn fun k => h k.1
theorem Gq (h : FC p B k f) {t : Int} (h0 : 0 ≤ t) (h1 : t < p.AB.n) : D_f1b.wp (t, f) fun y => aA y = Ak (aP p) (aF f) t := by
 obtain ⟨c1, c2, c3, c4⟩ := h.code h0 h1
 have htn := h.wf.tn
 have hk := h.hk
 have hT := h.KO h0 h1
 rw [← c3] at hT
 refine CF ?_
 simp only [tt_f1b, Nat.zero_add]
 refine wN (by rw [ibI]; omega) (wN (by rw [ibI]; omega) (wN (by simp) ?_))
 refine wC (w_f38 _ _ k (by omega) c1 c2 hT (h.wf.tw _ (by omega))) fun (y : TTh × TAk × Int) hy => wN (by simp) ?_
 unfold Ak
 rw [ID h0 (by omega), ← c3]
 exact hy.2.1
theorem Rj : EE (aP p) (aF f) e = if Br e = false then 3 else if (f.threads.n : Int) ≤ e.Thread then 5 else if (Ak (aP p) (aF f) e.Thread).Kind = 0 ∨ CM (Ak (aP p) (aF f) e.Thread) e = false then 11 else 0 := by
 unfold EE
 rw [show ((aF f).AB.length : Int) = f.threads.n by simp [aF]]
theorem HQ (h : FC p B k f) (he : Qg e) : D_f16.wp (e, f) fun y => y = EE (aP p) (aF f) e := by
 have htn := h.wf.tn
 have hk := h.hk
 refine CF ?_
 simp only [tt_f16, Nat.zero_add]
 rw [Rj]
 refine wC (w_f3a e) fun (y : Bool) hy => ?_
 subst hy
 refine BJ (g := Prod.fst) (by rw [bnI]; simp) (fun _ => rfl) fun hR => ?_
 have hR : Br e = true := by simpa using hR
 have hre := B7 hR
 refine wC (Gp e.Thread f) fun (y : Bool) hy => ?_
 refine AE bnI (fun q => ?_) fun q => ?_
 · rw [if_pos (Int.not_lt.1 fun z => q (hy.2 ⟨hre.2.1.1, z⟩))]; rfl
 · have hh := hy.1 (Classical.byContradiction q)
   have h0 := hh.1
   have h1 : e.Thread < p.AB.n := by omega
   obtain ⟨c1, c2, c3, c4⟩ := h.code h0 h1
   have hT := h.KO h0 h1
   rw [← c3] at hT
   have hcr := Hx h.inv h0 h1
   rw [← Fc h0 h1, ← c3] at hcr
   refine wN (by rw [ibI]; omega) (wN (by rw [ibI]; omega) (wN (by simp) ?_))
   refine wC (w_f2a _ _ _ e 0 k (by omega) c1 c2 hcr hT (h.wf.tw _ (by omega)) Cq he.vl he.tk.1) fun (y : TTh × Int) hy => wN (by simp) ?_
   have e1 : Ak (aP p) (aF f) e.Thread = (CL (f.p.AB.get e.Thread.toNat).L (aT (f.threads.get e.Thread.toNat))).2 := by
    unfold Ak
    rw [ID h0 (by omega), ← c3]
   rw [if_neg (by omega), e1]
   show y.2 = _
   rw [hy.1]
   unfold Rk
   rw [if_neg (by rw [hR]; simp)]
theorem MC (h : FC p B k f) (a : TAk) (hr : 0 ≤ e.Ring ∧ e.Ring < p.AF.n) (hrd : e.Kind = 3 ∨ e.Kind = 4 → 0 ≤ a.Reader ∧ a.Reader < (p.AF.get e.Ring.toNat).AR) (ht : 0 ≤ e.AG) :
 D_f1f.wp (e, (a, f)) fun y => y = DU (CS (aF f) e.Ring) (aA a) e := by
 obtain ⟨hC, hnil, hrn⟩ := h.ring hr.1 hr.2
 have hn := hC.hn
 have hfr := h.wf.rn
 have e1 : (aA a).Reader = a.Reader := rfl
 refine CF ?_
 simp only [tt_f1f, Nat.zero_add]
 have nd : ((true && true) && (((Nat.beq f.rings.n f.rings.n) && (Nat.blt e.Ring.toNat f.rings.n)) && (!(f.rings.get e.Ring.toNat).nil))) = true := by simp [hnil]; omega
 have nd2 : ((true && true) && (Nat.beq f.rings.n f.rings.n)) = true := by simp
 rw [hrn]
 unfold DU
 rw [e1]
 refine wN (by rw [ibI]; omega) (wN (by simp [hnil]) ?_)
 have bd : ∀ {x y : Int}, AW x y = decide (x = y) := fun {x y} => Bk (by rw [decide_eq_true_eq]; exact ieI)
 refine BJ (g := Prod.fst) ieI (fun _ => wC (F4 hC) fun (y : Bool) hy => ?_) fun n1 => BJ (g := Prod.fst) ieI (fun _ => wC (OL hC ht) fun (y : Bool) hy => Ef nd nd2 hy) fun n2 =>
  BJ (g := Prod.fst) ieI (fun q3 => ?_) fun n3 => BJ (g := Prod.fst) ieI (fun q4 => ?_) fun n4 => wC (HP _) fun (y : Int) hy => Ef nd nd2 ?_
 · subst hy
   refine AE bnI (fun q => wC (HP _) fun (y : Int) hy => Ef nd nd2 ?_) fun q => Ef nd nd2 ?_
   · subst hy
     rw [show Ex (aR (f.rings.get e.Ring.toNat).x) = false by simpa using q]
     exact bd
   · rw [show Ex (aR (f.rings.get e.Ring.toNat).x) = true from Classical.byContradiction q]; rfl
 · obtain ⟨j0, j1⟩ := hrd (.inl q3)
   refine wC (Eg a.Reader j0 (by omega)) fun (y : Bool) hy => ?_
   subst hy
   refine AE bnI (fun q => wC (Jz a.Reader _ j0 (by omega)) fun (y : Int) hy => Ef nd nd2 ?_) fun q => Ef nd nd2 ?_
   · subst hy
     rw [show EX (aR (f.rings.get e.Ring.toNat).x) a.Reader = false by simpa using q, Mp j0 (by omega)]
     exact bd
   · rw [show EX (aR (f.rings.get e.Ring.toNat).x) a.Reader = true from Classical.byContradiction q]; rfl
 · obtain ⟨j0, j1⟩ := hrd (.inr q4)
   exact wC (PX hC j0 (by omega) ht) fun (y : Bool) hy => Ef nd nd2 hy
 · subst hy
   exact bd
theorem MD (h : FC p B k f) (a : TAk) (hr : 0 ≤ a.Ring ∧ a.Ring < p.AF.n) (hrd : a.Kind ≠ 1 → 0 ≤ a.Reader ∧ a.Reader < (p.AF.get a.Ring.toNat).AR) :
 D_f17.wp (a, f) fun y => y = CG (CS (aF f) a.Ring) (aA a) := by
 obtain ⟨hC, hnil, hrn⟩ := h.ring hr.1 hr.2
 have hn := hC.hn
 have hfr := h.wf.rn
 have e1 : (aA a).Reader = a.Reader := rfl
 have e2 : (aA a).Kind = a.Kind := rfl
 refine CF ?_
 simp only [tt_f17, Nat.zero_add]
 have nd : ((true && true) && (((Nat.beq f.rings.n f.rings.n) && (Nat.blt a.Ring.toNat f.rings.n)) && (!(f.rings.get a.Ring.toNat).nil))) = true := by simp [hnil]; omega
 have nd2 : ((true && true) && (Nat.beq f.rings.n f.rings.n)) = true := by simp
 rw [hrn]
 unfold CG
 rw [e1, e2]
 refine wN (by rw [ibI]; omega) (wN (by simp [hnil]) ?_)
 refine BJ (g := Prod.fst) ieI (fun _ => wC (C5 _) fun (y : Bool) hy => ?_) fun q => ?_
 · subst hy
   refine Aq (fun q => Ef nd nd2 (by rw [q]; rfl)) fun q => wC (F4 hC) fun (y : Bool) hy => Ef nd nd2 ?_
   subst hy
   rw [show (aR (f.rings.get a.Ring.toNat).x).As = false by simpa using q]; rfl
 · obtain ⟨j0, j1⟩ := hrd q
   exact wC (Eg a.Reader j0 (by omega)) fun (y : Bool) hy => Ef nd nd2 hy
theorem w_f2y (hk : 1 ≤ e.Kind) : D_f2y.wp e fun y => y = A1 e.Kind := by
 refine of_wp ?_
 simp only [tt_f2y]
 exact AE leI (fun q => (Aw.2 (by omega)).symm) fun q => Bk (by rw [Aw]; exact ieI.trans (by omega))
theorem GQ (h : FC p B k f) (he : Qg e) : D_fc.wp (e, f) fun y => y = Bf (aP p) (aF f) e := by
 have hfr := h.wf.rn
 refine CF ?_
 simp only [tt_fc, Nat.zero_add]
 refine wC (HQ h he) fun (y : Int) hy => ?_
 subst hy
 unfold Bf
 refine AE (p := EE (aP p) (aF f) e ≠ 0) (by rw [bnI, ieI]) (fun q => by rw [decide_eq_false q]; rfl) fun q => ?_
 have q := Classical.byContradiction q
 rw [decide_eq_true q, Bool.true_and]
 have F := fitting q
 have hth := E5 h.inv F
 refine wC (Gq h hth.1 hth.2) fun (a : TAk) ha => ?_
 rw [← ha]
 have hf := O3 F.re F.ft
 have hre := B7 F.re
 have hrg := fun z => F5 h.inv F z
 rw [← ha] at hf hrg
 have n0 := h.inv.n0
 change 0 ≤ f.now at n0
 have hnow : (aF f).Ec = f.now := rfl
 have hend : (aF f).BO = f.ended := rfl
 -- no, E0, time
 have no : 5 ≤ e.Kind ∧ e.Kind ≤ 7 → D_f17.wp (a, f) fun y => y = CG (CS (aF f) e.Ring) (aA a) := fun z => by
  obtain ⟨r1, r2, _⟩ := hrg (Bs.2 (by omega))
  have hr : a.Ring = e.Ring := hf.rg (Bs.2 (by omega))
  have h5 := hf.f5 z
  rw [← hr]
  rw [← hr] at r1 r2
  exact MD h a r1 fun w => r2 (.inl (h5.resolve_left w))
 have nd : 5 ≤ e.Kind ∧ e.Kind ≤ 7 ∨ e.Kind = 1 → (A6 e.Ring f.rings.n = true ∧ (((Nat.beq f.rings.n f.rings.n) && true) && (!(f.rings.get e.Ring.toNat).nil)) = true ∧ ((true && true) && (((Nat.beq f.rings.n f.rings.n) && (Nat.blt e.Ring.toNat f.rings.n)) && (!(f.rings.get e.Ring.toNat).nil))) = true ∧ CS (aF f) e.Ring = aR (f.rings.get e.Ring.toNat).x) := fun z => by
  obtain ⟨r1, _, _⟩ := hrg (Bs.2 (by omega))
  obtain ⟨_, hnil, hrn⟩ := h.ring r1.1 r1.2
  exact ⟨by rw [ibI]; omega, by simp [hnil], by simp [hnil]; omega, hrn⟩
 have nd2 : ((true && true) && (Nat.beq f.rings.n f.rings.n)) = true := by simp
 unfold G1
 simp only
 rw [hnow, hend]
 refine AE ieI (fun k5 => ?_) fun n5 => AE ieI (fun k7 => ?_) fun n7 => AE ieI (fun k6 => ?_) fun n6 => ?_
 · rw [if_pos (.inl k5)]
   obtain ⟨d1, d2, d3, d4⟩ := nd (.inl (by omega))
   refine wC (no (by omega)) fun (y : Bool) hy => ?_
   subst hy
   refine Aq (fun z => wN d1 (wN d2 (wC (C5 _) fun (y : Bool) hy => Ef d3 nd2 ?_))) fun z => ?_
   · rw [z, d4, hy]; rfl
   · rw [show CG (CS (aF f) e.Ring) (aA a) = false by simpa using z]; rfl
 · rw [if_pos (.inr k7)]
   obtain ⟨d1, d2, d3, d4⟩ := nd (.inl (by omega))
   refine wC (no (by omega)) fun (y : Bool) hy => ?_
   subst hy
   refine Aq (fun z => wN d1 (wN d2 (wC (C5 _) fun (y : Bool) hy => Ef d3 nd2 ?_))) fun z => ?_
   · rw [z, d4, hy]; rfl
   · rw [show CG (CS (aF f) e.Ring) (aA a) = false by simpa using z]; rfl
 · rw [if_neg (by omega), if_pos k6]
   obtain ⟨d1, d2, d3, d4⟩ := nd (.inl (by omega))
   refine wC (no (by omega)) fun (y : Bool) hy => ?_
   subst hy
   refine Aq (fun z => wN d1 (wN d2 (wC (C5 _) fun (y : Bool) hy => Ef d3 nd2 ?_))) fun z => ?_
   · rw [z, d4, hy]; rfl
   · rw [show CG (CS (aF f) e.Ring) (aA a) = false by simpa using z]; rfl
 · rw [if_neg (by omega), if_neg n6]
   refine BJ (g := Prod.fst) ieI (fun _ => ?_) fun n8 => BJ (g := Prod.fst) ieI (fun _ => rfl) fun n10 => ?_
   · have := he.vl
     refine AE leI (fun z => ?_) fun z => (decide_eq_false fun w => z w.1).symm
     rw [Au (by have := this.1; omega) (by have := this.2; omega)]
     exact Bk (by rw [decide_eq_true_eq]; exact ilI.trans ⟨fun w => ⟨z, w⟩, fun w => w.2⟩)
   · have tu : A1 e.Kind = true → D_f1f.wp (e, (a, f)) fun y => y = DU (CS (aF f) e.Ring) (aA a) e := fun z => by
      obtain ⟨r1, _, r2⟩ := hrg (Cz z)
      exact MC h a r1 r2 he.tk.1
     refine BJ (g := Prod.fst) ieI (fun k1 => ?_) fun n1 => of_wp ?_
     · obtain ⟨d1, d2, d3, d4⟩ := nd (.inr k1)
       refine wC (tu (Aw.2 (by omega))) fun (y : Bool) hy => ?_
       subst hy
       refine Aq (fun z => wN d1 (wN d2 (wC (C5 _) fun (y : Bool) hy => Ef d3 nd2 ?_))) fun z => ?_
       · rw [z, d4, hy]; rfl
       · rw [show DU (CS (aF f) e.Ring) (aA a) e = false by simpa using z]; rfl
     · simp only [tt_fc_16]
       refine wC (w_f2y hre.1.1) fun (y : Bool) hy => ?_
       subst hy
       refine AE bnI (fun z => ?_) fun z => ?_
       · rw [show A1 e.Kind = false by simpa using z]; rfl
       · have z := Classical.byContradiction z
         rw [z]
         exact wC (tu z) fun y hy => hy
end
theorem RK {α : Type} {T T' : Sl α} (h2 : T.n = T'.n) (h3 : ∀ i, T.get i = T'.get i) : T.L = T'.L := Sl.Q7 h2 fun i _ => h3 i
section
variable {c : TRg} {b : Int} {r : TRr}
theorem OG (h : RC c b r) {t v : Int} (h0 : 0 ≤ t) (h1 : t < 4611686018427387904) (hst : (A4 (aR r) t).AP = 2 * t) :
 D_f30.wp (t, (v, r.s.x)) fun y => y.2.l.L = r.s.x.l.L.set (HK (aR r) t) ⟨2 * t + 1, v, 2 ^ r.AA.AD.n - 1⟩ ∧ y.2.AX = r.s.x.AX ∧ CY y.2.l ∧ y.2.l.n = r.s.x.l.n := by
 have hn := h.hn
 rw [GU h] at hst
 refine of_wp ?_
 simp only [tt_f30]
 refine AE leI (fun q => by omega) fun _ => wC (Kc h h0 _ _) fun (y : Nat × Nat) hy => ?_
 subst hy
 refine wN (by simp) (wC (w_f2s t h0 (by omega)) fun (y : Int) hy => ?_)
 subst hy
 refine AE (p := (r.s.x.l.get (HK (aR r) t)).AP < 2 * t) ilI (fun q => by omega) fun _ => wN (by simp) (wC (w_f2s t h0 (by omega)) fun (y : Int) hy => ?_)
 subst hy
 refine AE (p := 2 * t < (r.s.x.l.get (HK (aR r) t)).AP) ilI (fun q => by omega) fun _ => wC (w_f3b h0 h1) fun (y : Int) hy => ?_
 subst hy
 have hrd := h.wf.rd
 have hp8 := It (j := r.AA.AD.n) hn.2.1
 have hpp := GW r.AA.AD.n
 refine wN (by rw [leI, hrd]; omega) (wN (by simp) (wN (by simp) ⟨?_, rfl, h.wf.lz, rfl⟩))
 rw [← Gt]
 refine RK rfl fun i => ?_
 have e : IntKind.i64.wrap (shl IntKind.i64 1 r.s.x.AX - 1) = 2 ^ r.AA.AD.n - 1 := by
  rw [hrd, J1 (by omega) (by omega), show c.AR.toNat = r.AA.AD.n by omega, wrap64 (by omega) (by omega)]
 show (⟨_, _, cond _ (IntKind.i64.wrap (shl IntKind.i64 1 r.s.x.AX - 1)) _⟩ : TSo) = cond (Nat.beq i _) _ _
 rw [e]
 cases Nat.beq i (HK (aR r) t) <;> rfl
theorem OH (h : RC c b r) {j t : Int} (hj0 : 0 ≤ j) (hj : j < r.AA.AD.n) (h0 : 0 ≤ t) (h1 : t < 2305843009213693952) (hg : (A4 (aR r) t).AP = 2 * t + 1 ∧ Dy (A4 (aR r) t).Left j = true) :
 D_f31.wp (j, (t, r.s.x)) fun y => y.1 = (A4 (aR r) t).Value ∧ y.2.2.l.L = r.s.x.l.L.set (HK (aR r) t) (LW (A4 (aR r) t) j t (IX (aR r))) ∧ y.2.2.AX = r.s.x.AX ∧ CY y.2.2.l ∧ y.2.2.l.n = r.s.x.l.n := by
 have hn := h.hn
 have hl := h.ln
 have hs := h.slot t
 refine of_wp ?_
 simp only [tt_f31]
 refine wC (Jy h hj0 hj h0 (by omega)) fun (y : Int) hy => ?_
 refine AE (p := y ≠ 0) (by rw [bnI, ieI]) (fun q => absurd (hy.2 hg) q) fun _ => wC (Kc h h0 _ _) fun (y : Nat × Nat) hy => ?_
 subst hy
 rw [GU h] at hg ⊢
 rw [Nt]
 obtain ⟨g1, g2⟩ := hg
 simp only [Nat.beq_refl, cond_true]
 generalize hx : r.s.x.l.get (HK (aR r) t) = x at hs g1 g2
 have hheld := hs.held (by omega)
 have h28 := It (j := r.AA.AD.n) hn.2.1
 obtain ⟨jn, rfl⟩ : ∃ jn : Nat, j = jn := ⟨j.toNat, by omega⟩
 obtain ⟨hcl, hcl0⟩ := J8 (j := jn) (x := x.Left) (by omega) (by omega) (by omega) g2
 rw [hcl, Au (z := (r.s.x.l.n : Int)) (by omega) (by omega), Au (z := t + (r.s.x.l.n : Int)) (by omega) (by omega)]
 have n1 : (true && (Nat.beq r.s.x.l.n r.s.x.l.n)) = true := by simp
 refine wN (by simp) (wN (by simp) (wN (by rw [leI]; exact hj0) (wN (by simp) (wN (by simp) (AE ieI (fun e => ?_) fun e => ?_)))))
 · refine wC (w_f2s (t + (r.s.x.l.n : Int)) (by omega) (by omega)) fun (y : Int) hy => wN (by simp) (wN (by simp) ⟨rfl, ?_, rfl, h.wf.lz, rfl⟩)
   subst hy
   rw [← Gt]
   refine RK rfl fun i => ?_
   unfold LW
   rw [Int.toNat_natCast, if_pos e]
   show (⟨_, _, _⟩ : TSo) = cond (Nat.beq i _) _ _
   cases Nat.beq i (HK (aR r) t) <;> rfl
 · refine wN (by simp) ⟨rfl, ?_, rfl, h.wf.lz, rfl⟩
   rw [← Gt]
   refine RK rfl fun i => ?_
   unfold LW
   rw [Int.toNat_natCast, if_neg e]
   show (⟨_, _, _⟩ : TSo) = cond (Nat.beq i _) _ _
   cases Nat.beq i (HK (aR r) t) <;> rfl
theorem Ku (h : RC c b r) {t v : Int} (h0 : 0 ≤ t) (hf : Hb (aR r) t = true) : D_f2n.wp (t, (v, r)) fun y => QS c y.2 ∧ aR y.2 = Ov (aR r) t v := by
 have ht := h.t
 simp only [Hb, decide_eq_true_eq] at hf
 have hlt : t < r.AA.tail := hf.1
 refine of_wp ?_
 simp only [tt_f2n]
 refine AE leI (fun q => by omega) fun _ => wN (by simp [h.wf.sn]) (wC (OG h h0 (by omega) hf.2) fun (y : Int × TSs) hy => ⟨⟨rfl, hy.2.1.trans h.wf.rd, h.wf.ms, h.wf.hz, hy.2.2.1, h.wf.hn, ?_⟩, ?_⟩)
 · show (y.2.l.n : Int) = _; rw [hy.2.2.2]; exact h.wf.ln
 · show (⟨_, _, _, y.2.l.L⟩ : MR) = _
   rw [hy.1]
   unfold Ov
   simp [aR]
theorem Kt (h : RC c b r) (hb : b ≤ 2305843009213693952) {j t : Int} (hj0 : 0 ≤ j) (hj : j < r.AA.AD.n) (h0 : 0 ≤ t) (hh : LV (aR r) j t = true) :
 D_f2o.wp (j, (t, r)) fun y => y.1 = (A4 (aR r) t).Value ∧ QS c y.2.2 ∧ aR y.2.2 = Ri (aR r) j t := by
 have htb := h.inv.tb
 change r.AA.tail < b at htb
 have hd := h.hd (k := j.toNat) (by omega)
 simp only [LV, decide_eq_true_eq, Mp hj0 hj] at hh
 refine of_wp ?_
 simp only [tt_f2o]
 refine wC (FA j r.AA) fun (y : Bool) hy => ?_
 refine AE bnI (fun q => absurd (hy.2 ⟨hj0, hj⟩) q) fun _ => wN (by rw [ibI]; exact ⟨hj0, hj⟩) (wN (by simp) ?_)
 rw [Nat.zero_add]
 refine AE leI (fun q => by omega) fun _ => wN (by simp) (wN (by simp [h.wf.sn]) (wC (OH h hj0 hj h0 (by omega) hh.2) fun (y : Int × Int × TSs) hy => ⟨hy.1, ⟨rfl, hy.2.2.1.trans h.wf.rd, h.wf.ms, h.wf.hz, hy.2.2.2.1, h.wf.hn, ?_⟩, ?_⟩))
 · show (y.2.2.l.n : Int) = _; rw [hy.2.2.2.2]; exact h.wf.ln
 · show (⟨_, _, _, y.2.2.l.L⟩ : MR) = _
   rw [hy.2.1]
   rfl
theorem OJ (h : RC c b r) {j : Int} (hj0 : 0 ≤ j) (hj : j < r.AA.AD.n) (he : EX (aR r) j = false) : D_f1c.wp (j, r) fun y => QS c y.2.2 ∧ aR y.2.2 = Fm (aR r) j := by
 have hn := h.hn
 have ht := h.t
 have hd := h.hd (k := j.toNat) (by omega)
 refine of_wp ?_
 simp only [tt_f1c]
 refine wC (FA j r.AA) fun (y : Bool) hy => ?_
 refine AE bnI (fun q => absurd (hy.2 ⟨hj0, hj⟩) q) fun _ => wC (Eg j hj0 hj) fun (y : Bool) hy => ?_
 subst hy
 rw [he]
 refine Aq (fun q => by cases q) fun _ => wC (Eg j hj0 hj) fun (y : Bool) hy => ?_
 subst hy
 rw [he]
 refine Aq (fun q => by cases q) fun _ => of_wp ?_
 simp only [tt_f1c_9, Nat.zero_add]
 have i1 : A6 j r.AA.AD.n = true := by rw [ibI]; exact ⟨hj0, hj⟩
 have n1 : ((Nat.beq r.AA.AD.n r.AA.AD.n) && true) = true := by simp
 have n2 : ((true && true) && (Nat.beq r.AA.AD.n r.AA.AD.n)) = true := by simp
 refine wN i1 (wN n1 (wN i1 (wN n1 (wN n2 (wN i1 (wN n1 (wN n2 ⟨⟨h.wf.sn, h.wf.rd, h.wf.ms, h.wf.hz, h.wf.lz, h.wf.hn, h.wf.ln⟩, ?_⟩)))))))
 unfold Fm
 rw [Mp hj0 hj]
 show (⟨_, Sl.L _, _, _⟩ : MR) = ⟨_, r.AA.AD.L.set _ _, _, _⟩
 rw [← Gt]
 congr 1
 refine RK rfl fun i => ?_
 show cond (Nat.beq i j.toNat) (IntKind.u64.wrap (r.AA.AD.get j.toNat + 1)) _ = cond _ _ _
 rw [Au (by omega) (by omega)]
theorem M9 (r : TRr) : D_f32.wp r fun y => y = (0, { r with closed := true }) := of_wp rfl
theorem NA (h : RC c b r) : D_f2z.wp r fun y => (r.closed = true ∧ y = (0, (10, r))) ∨ (r.closed = false ∧ Ex (aR r) = true ∧ y = (0, (8, r))) ∨
 (r.closed = false ∧ Ex (aR r) = false ∧ y.2.1 = 0 ∧ y.2.2 = { r with AA := ⟨r.AA.tail + 1, r.AA.AD⟩ }) := by
 have ht := h.t
 refine of_wp ?_
 simp only [tt_f2z]
 refine Aq (fun q => .inl ⟨q, rfl⟩) fun q => wC (F4 h) fun (y : Bool) hy => ?_
 have q : r.closed = false := by simpa using q
 subst hy
 refine Aq (fun q2 => .inr (.inl ⟨q, q2, rfl⟩)) fun q2 => .inr (.inr ⟨q, by simpa using q2, rfl, ?_⟩)
 rw [Au (z := r.AA.tail + 1) (by omega) (by omega)]
theorem Qf {s : TRs} (hc : BB c = true) (h : Dt c b (JM s)) (hb : b ≤ 4611686018427387904) (hz : CY s.AV) (sz : CY s.Al) : V2 s := by
 have hf := DD hc
 have c1 := h.cap
 have c2 := h.rd
 simp only [JM, Sl.Bb] at c1 c2
 have t0 := h.t0
 have tb := h.tb
 change 0 ≤ s.A0 at t0
 change s.A0 < b at tb
 have m64 : (64 : Nat) ≤ maxLen := by decide
 refine ⟨t0, by omega, by omega, fun j hj => ?_, hz, ⟨by omega, fun i hi => ?_, sz⟩⟩
 · have := h.h0 _ (Sl.Ct.2 ⟨j, hj, rfl⟩)
   change 0 ≤ s.AV.get j ∧ s.AV.get j ≤ s.A0 ∧ _ at this
   omega
 · have hs := h.sl i (s.Al.get i) (Sl.D2 _ hi)
   have h8 := It (j := (JM s).AV.length) (by simp [JM]; omega)
   have h0 := hs.s0
   have h1 := hs.s1
   have hl : 0 ≤ (s.Al.get i).Left ∧ (s.Al.get i).Left < 256 := by
    rcases (by omega : (s.Al.get i).AP % 2 = 0 ∨ (s.Al.get i).AP % 2 = 1) with e | e
    · have := hs.free e; omega
    · have := hs.held e; omega
   exact ⟨h0, by omega, by omega, by omega⟩
theorem Oa {s : TRs} (hc : BB c = true) (h : Dt c b (JM s)) (hb : b ≤ 4611686018427387904) : Sk c s := by
 have hf := DD hc
 have c1 := h.cap
 have c2 := h.rd
 simp only [JM, Sl.Bb] at c1 c2
 have tb := h.tb
 change s.A0 < b at tb
 have hnr : (JM s).AV.length = c.AR.toNat := by simp [JM]; omega
 refine ⟨⟨c1, fun i hi => ?_⟩, c2, by omega, fun j hj => ?_, fun i hi => ?_⟩
 · have hs := h.sl i (s.Al.get i) (Sl.D2 _ hi)
   exact ⟨hs.s1, hs.Vr, hs.free, fun e => by have := hs.held e; rw [hnr] at this; exact this⟩
 · have := h.h0 _ (Sl.Ct.2 ⟨j, hj, rfl⟩)
   exact this.2
 · have hs := h.sl i (s.Al.get i) (Sl.D2 _ hi)
   refine ⟨hs.Qq, fun j hj => ⟨fun e1 e2 => hs.Uh e1 j _ (Sl.D2 _ hj) e2, fun e1 e2 => hs.TZ e1 e2 _ (Sl.Ct.2 ⟨j, hj, rfl⟩)⟩⟩
end
structure RU (p : TPg) (rs rs' : Sl (Bx TRr)) (i : Nat) (m : MR) : Prop where
 n : rs'.n = rs.n
 ot : ∀ j, j ≠ i → rs'.get j = rs.get j
 nl : (rs'.get i).nil = false
 wf : QS (p.AF.get i) (rs'.get i).x
 eq : aR (rs'.get i).x = m
theorem Me {p : TPg} {rs rs' : Sl (Bx TRr)} {i : Nat} {m : MR} (z : Bx TRr) (h1 : rs'.n = rs.n) (h2 : ∀ j, rs'.get j = cond (Nat.beq j i) z (rs.get j)) (h3 : z.nil = false) (h4 : QS (p.AF.get i) z.x) (h5 : aR z.x = m) : RU p rs rs' i m := by
 have hi : rs'.get i = z := by rw [h2, Nat.beq_refl]; rfl
 exact ⟨h1, fun j hj => by rw [h2, Jx hj]; rfl, by rw [hi]; exact h3, by rw [hi]; exact h4, by rw [hi]; exact h5⟩
theorem RU.L {p : TPg} {rs rs' : Sl (Bx TRr)} {i : Nat} {m : MR} (h : RU p rs rs' i m) : rs'.L.map (fun r => aR r.x) = (rs.L.map fun r => aR r.x).set i m := by
 apply List.ext_getElem
 · simp [h.n]
 · intro j h1 h2
   have hj : j < rs.n := by simpa [h.n] using h1
   simp only [List.getElem_map, Sl.HC]
   by_cases e : j = i
   · subst e; rw [List.getElem_set_self, h.eq]
   · rw [List.getElem_set_ne (fun q => e q.symm)]
     simp only [List.getElem_map, Sl.HC, h.ot j e]
section
variable {p : TPg} {B : Int} {k : Nat} {f : TFa} {e : TEv}
theorem Kw (h : FC p B k f) {i : Int} (h0 : 0 ≤ i) (h1 : i < p.AF.n) (hF : Ex (CS (aF f) i) = false) :
 D_f2f.wp (i, f) fun y => ∃ rs, y = ⟨f.p, f.threads, rs, f.now, f.reads, f.ended⟩ ∧ RU p f.rings rs i.toNat { CS (aF f) i with A0 := (CS (aF f) i).A0 + 1 } := by
 obtain ⟨hC, hnil, hrn⟩ := h.ring h0 h1
 have hfr := h.wf.rn
 have hi : i.toNat < p.AF.n := by omega
 rw [hrn] at hF ⊢
 have nd : ((true && true) && ((Nat.beq f.rings.n f.rings.n) && (Nat.blt i.toNat f.rings.n))) = true := by simp; omega
 have nd2 : ((true && true) && (Nat.beq f.rings.n f.rings.n)) = true := by simp
 have ib : A6 i f.rings.n = true := by rw [ibI]; omega
 refine of_wp ?_
 simp only [tt_f2f, Nat.zero_add]
 refine wN ib (wN (by simp [hnil]) (wC (NA hC) fun (y : Int × Int × TRr) hy => wN nd (Cy (wN nd2 ?_))))
 rcases hy with ⟨hcl, rfl⟩ | ⟨_, hfl, _⟩ | ⟨hcl, _, hy0, hyr⟩
 · refine AE (p := (10 : Int) ≠ 10) (by rw [bnI, ieI]) (fun q => absurd rfl q) fun _ => ?_
   simp only [Nat.beq_refl, cond_true]
   have hc := hC.rg
   refine wN ib (wN (by simp) (wC (Gn (p.AF.get i.toNat) _ hc hC.wf) fun (s : TRs) hs => wN (by simp; omega) (Cy (wN (by simp) ?_))))
   obtain ⟨e1, e2, e3⟩ := hs
   have hcp := h.wf.cp
   have hI := hC.inv.U2 hF
   have ht := hC.t
   have hT : s.A0 = (f.rings.get i.toNat).x.AA.tail := congrArg MR.A0 e1
   have hb := h.hB
   rw [Au (z := s.A0 + 1) (by rw [hT]; omega) (by rw [hT]; omega), hcp.r.g _ hi]
   have es : JM ⟨s.A0 + 1, s.AV, s.As, s.Al⟩ = { aR (f.rings.get i.toNat).x with A0 := (aR (f.rings.get i.toNat).x).A0 + 1 } := by
    rw [← e1]; rfl
   rw [← es] at hI
   refine wN (by rw [ibI, hcp.r.n]; omega) (wC (w_fb (p.AF.get i.toNat) ⟨s.A0 + 1, s.AV, s.As, s.Al⟩ hc (Qf hc hI (by omega) e2 e3)) fun (z : Bx TRr × Int) hz => ?_)
   rcases hz with ⟨_, z2, zn, zw, za⟩ | ⟨hno, _⟩
   rotate_left
   · exact absurd (Oa hc hI (by omega)) hno
   refine AE ieI (fun _ => wN ib (wN (by simp) (wN (by simp) ⟨_, rfl, Me z.1 rfl (fun j => ?_) zn zw (za.trans es)⟩))) fun q => absurd z2 q
   show (⟨_, _⟩ : Bx TRr) = cond (Nat.beq j _) _ _
   cases Nat.beq j i.toNat <;> rfl
 · rw [hF] at hfl; cases hfl
 · refine AE (p := y.2.1 ≠ 10) (by rw [bnI, ieI]) (fun _ => ⟨_, rfl, Me ⟨false, y.2.2⟩ rfl (fun j => ?_) rfl ?_ ?_⟩) fun q => absurd (by rw [hy0]; decide) q
   · show (⟨_, _⟩ : Bx TRr) = cond (Nat.beq j _) _ _
     cases Nat.beq j i.toNat <;> rfl
   · show QS _ y.2.2
     rw [hyr]
     exact ⟨hC.wf.sn, hC.wf.rd, hC.wf.ms, hC.wf.hz, hC.wf.lz, hC.wf.hn, hC.wf.ln⟩
   · show aR y.2.2 = _
     rw [hyr]; rfl
theorem Rq (h : FC p B k f) (he : Qg e) (F : Dh (aP p) (aF f) e) (v : Int) (hv : B0 v) (hve : v = if e.Kind = 4 then (A4 (CS (aF f) e.Ring) e.AG).Value else 0) (rs : Sl (Bx TRr)) (now rd : Int) (en : Bool) :
 D_fe_20.wp (⟨e, v, ⟨f.p, f.threads, rs, now, rd, en⟩⟩ : X_fe_20) fun y => ∃ ts, y = ⟨f.p, ts, rs, now, rd, en⟩ ∧ ts.n = f.threads.n ∧ ts.L.map aT = (Ai (aP p) (aF f) e).AB ∧ ∀ t, t < ts.n → Ee (k + 1) (ts.get t) := by
 obtain ⟨h0, h1⟩ := E5 h.inv F
 obtain ⟨c1, c2, c3, c4⟩ := h.code h0 h1
 have htn := h.wf.tn
 have hk := h.hk
 have hT := h.KO h0 h1
 rw [← c3] at hT
 have hcr := Hx h.inv h0 h1
 rw [← Fc h0 h1, ← c3] at hcr
 refine of_wp ?_
 simp only [tt_fe_20, Nat.zero_add]
 have ib : A6 e.Thread f.threads.n = true := by rw [ibI]; omega
 refine wN (by rw [ibI]; omega) (wN ib (wN (by simp) (wC (w_f2a _ _ _ e v k (by omega) c1 c2 hcr hT (h.wf.tw _ (by omega)) hv he.vl he.tk.1) fun (y : TTh × Int) hy => wN ib (wN (by simp) (wN (by simp) ?_)))))
 have hd : Rk (f.p.AB.get e.Thread.toNat).L (aT (f.threads.get e.Thread.toNat)) e = 0 := by
  unfold Rk
  have hft := F.ft
  have ha0 := F.a0
  unfold Ak at hft ha0
  rw [ID h0 (by omega), ← c3] at hft ha0
  rw [if_neg (by rw [F.re]; simp), if_neg (by rw [hft]; simp [ha0])]
 obtain ⟨hy1, hy2⟩ := hy.2 hd
 have hts : ∀ {T : Sl TTh}, T.n = f.threads.n → (∀ j, T.get j = cond (Nat.beq j e.Thread.toNat) y.1 (f.threads.get j)) → T.L.map aT = (Ai (aP p) (aF f) e).AB ∧ ∀ t, t < T.n → Ee (k + 1) (T.get t) := fun {T} e1 e2 => by
  refine ⟨?_, fun t ht => ?_⟩
  · have : T.L = f.threads.L.set e.Thread.toNat y.1 := by rw [← Gt]; exact RK e1 e2
    rw [this, map_set, hy1]
    unfold Ai
    simp only
    rw [ID h0 (by omega), ← c3, hve]
    rfl
  · rw [e2]
    by_cases q : t = e.Thread.toNat
    · subst q; rw [Nat.beq_refl]; exact hy2
    · rw [Jx q]; exact (h.wf.tw t (by omega)).grow (by omega)
 refine ⟨_, rfl, rfl, hts rfl fun j => ?_⟩
 show (⟨_, _, _, _, _, _, _⟩ : TTh) = cond (Nat.beq j _) _ _
 cases Nat.beq j e.Thread.toNat <;> rfl
theorem FC.Q1 (h : FC p B k f) {t : Int} (h0 : 0 ≤ t) (h1 : t < p.AB.n) : B0 (Ak (aP p) (aF f) t).Value := by
 have htn := h.wf.tn
 have := h.KO h0 h1
 unfold Ak
 rw [ID h0 (by omega)]
 rw [Fc h0 h1] at this ⊢
 exact (Ot (Hx h.inv h0 h1) (h.hp.k (by omega)) this (h.wf.tw _ (by omega)).rg).2
theorem ME (h : FC p B k f) (he : Qg e) (F : Dh (aP p) (aF f) e) (ht : A1 e.Kind = true → DU (CS (aF f) e.Ring) (Ak (aP p) (aF f) e.Thread) e = true) (hB : B + 1 ≤ 2305843009213693952) (hk : k + 1 ≤ 1000000000) :
 D_fe.wp (e, f) fun y => aF y = Ai (aP p) (aF f) e ∧ FC p (B + 1) (k + 1) y := by
 obtain ⟨t0, t1⟩ := E5 h.inv F
 have hfr := h.wf.rn
 have htn := h.wf.tn
 have hre := B7 F.re
 have hI := IP h.inv h.hB he.tk.1 F ht
 have hU := M4 h.uv (h.Q1 t0 t1)
 refine of_wp ?_
 simp only [tt_fe, Nat.zero_add]
 refine wC (Gq h t0 t1) fun (a : TAk) ha => ?_
 -- the end of all ways
 have fin : ∀ (v : Int) (rs : Sl (Bx TRr)) (now rd : Int) (en : Bool), B0 v → v = (if e.Kind = 4 then (A4 (CS (aF f) e.Ring) e.AG).Value else 0) → rs.n = p.AF.n → (∀ i, i < rs.n → (rs.get i).nil = false ∧ QS (p.AF.get i) (rs.get i).x) →
  rs.L.map (fun r => aR r.x) = (Ai (aP p) (aF f) e).AF → now = (Ai (aP p) (aF f) e).Ec → rd = (Ai (aP p) (aF f) e).Reads → en = (Ai (aP p) (aF f) e).BO →
  D_fe_20.wp (⟨e, v, ⟨f.p, f.threads, rs, now, rd, en⟩⟩ : X_fe_20) fun y => aF y = Ai (aP p) (aF f) e ∧ FC p (B + 1) (k + 1) y := fun v rs now rd en hv hve r1 r2 r3 e1 e2 e3 => by
  refine (Rq h he F v hv hve rs now rd en).mono fun y hy => ?_
  obtain ⟨ts, rfl, n1, n2, n3⟩ := hy
  have ea : aF ⟨f.p, ts, rs, now, rd, en⟩ = Ai (aP p) (aF f) e := by
   show (⟨_, _, _, _, _⟩ : MS) = _
   rw [n2, r3, e1, e2, e3]
  exact ⟨ea, h.hp, by rw [ea]; exact hI, ⟨h.wf.cp, by show ts.n = _; omega, n3, r1, r2⟩, by rw [ea]; exact hU, hB, hk⟩
 have vz : e.Kind ≠ 4 → (0 : Int) = (if e.Kind = 4 then (A4 (CS (aF f) e.Ring) e.AG).Value else 0) := fun q => by rw [if_neg q]
 have nw : e.Kind ≠ 8 → f.now = (Ai (aP p) (aF f) e).Ec := fun q => by unfold Ai; simp only; rw [if_neg q]; rfl
 have rd : e.Kind ≠ 10 → f.reads = (Ai (aP p) (aF f) e).Reads := fun q => by unfold Ai; simp only; rw [if_neg q]; rfl
 have en : e.Kind ≠ 11 → f.ended = (Ai (aP p) (aF f) e).BO := fun q => by unfold Ai; simp only; rw [if_neg q]; rfl
 have rgs : A1 e.Kind = false → f.rings.L.map (fun r => aR r.x) = (Ai (aP p) (aF f) e).AF := fun q => by unfold Ai; simp only [q, Bool.false_eq_true, if_false]; rfl
 -- with a ring
 have ring : A1 e.Kind = true → ∀ (v : Int) (rs : Sl (Bx TRr)), B0 v → v = (if e.Kind = 4 then (A4 (CS (aF f) e.Ring) e.AG).Value else 0) → RU p f.rings rs e.Ring.toNat (CK (CS (aF f) e.Ring) (Ak (aP p) (aF f) e.Thread) e) →
  D_fe_20.wp (⟨e, v, ⟨f.p, f.threads, rs, f.now, f.reads, f.ended⟩⟩ : X_fe_20) fun y => aF y = Ai (aP p) (aF f) e ∧ FC p (B + 1) (k + 1) y := fun q v rs hv hve hu => by
  have h1 := Aw.1 q
  refine fin v rs _ _ _ hv hve (by rw [hu.n]; exact hfr) (fun i hi => ?_) ?_ (nw (by omega)) (rd (by omega)) (en (by omega))
  · by_cases z : i = e.Ring.toNat
    · subst z; exact ⟨hu.nl, hu.wf⟩
    · rw [hu.ot i z]; exact h.wf.rw i (by rw [← hu.n]; exact hi)
  · rw [hu.L]
    unfold Ai
    simp only [q, if_true]
    rfl
 have tk := fun z => Aw (k := e.Kind).2 z
 have info := fun (q : A1 e.Kind = true) => by
  obtain ⟨r1, _, r2⟩ := F5 h.inv F (Cz q)
  obtain ⟨hC, hnil, hrn⟩ := h.ring r1.1 r1.2
  exact (⟨r1, by rw [ha]; exact r2, hC, hnil, hrn, by rw [ibI]; omega, by simp [hnil], by simp; omega⟩ : (0 ≤ e.Ring ∧ e.Ring < p.AF.n) ∧ (e.Kind = 3 ∨ e.Kind = 4 → 0 ≤ (aA a).Reader ∧ (aA a).Reader < (p.AF.get e.Ring.toNat).AR) ∧ RC (p.AF.get e.Ring.toNat) B (f.rings.get e.Ring.toNat).x ∧ (f.rings.get e.Ring.toNat).nil = false ∧ CS (aF f) e.Ring = aR (f.rings.get e.Ring.toNat).x ∧ A6 e.Ring f.rings.n = true ∧
   (((Nat.beq f.rings.n f.rings.n) && true) && (!(f.rings.get e.Ring.toNat).nil)) = true ∧ ((true && true) && ((Nat.beq f.rings.n f.rings.n) && (Nat.blt e.Ring.toNat f.rings.n))) = true)
 have nd2 : ((true && true) && (Nat.beq f.rings.n f.rings.n)) = true := by simp
 rw [← ha] at ht
 refine AE ieI (fun k1 => ?_) fun n1 => AE ieI (fun k2 => ?_) fun n2 => AE ieI (fun k3 => ?_) fun n3 => AE ieI (fun k4 => ?_) fun n4 => AE ieI (fun k13 => ?_) fun n13 => ?_
 · have q := tk (by omega)
   obtain ⟨r1, _⟩ := info q
   have hT := ht q
   unfold DU at hT
   rw [if_pos k1] at hT
   simp only [Bool.and_eq_true, Bool.not_eq_true', decide_eq_true_eq] at hT
   refine wC (Kw h r1.1 r1.2 hT.1) fun (y : TFa) hy => ?_
   obtain ⟨rs, rfl, hu⟩ := hy
   refine ring q 0 rs Cq (vz (by omega)) ?_
   unfold CK
   rw [if_pos k1]; exact hu
 · have q := tk (by omega)
   obtain ⟨r1, r2, hC, hnil, hrn, d1, d2, d3⟩ := info q
   have hT := ht q
   unfold DU at hT
   rw [if_neg n1, if_pos k2, hrn] at hT
   refine wN d1 (wN d2 (wC (Ku hC he.tk.1 hT) fun (y : Int × TRr) hy => wN d3 (Cy (wN nd2 (ring q 0 _ Cq (vz (by omega)) (Me ⟨false, y.2⟩ rfl (fun j => ?_) rfl hy.1 ?_))))))
   · show (⟨_, _⟩ : Bx TRr) = cond (Nat.beq j _) _ _
     cases Nat.beq j e.Ring.toNat <;> rfl
   · unfold CK
     rw [if_neg n1, if_pos k2, hrn, ← ha]; exact hy.2
 · have q := tk (by omega)
   obtain ⟨r1, r2, hC, hnil, hrn, d1, d2, d3⟩ := info q
   have hT := ht q
   unfold DU at hT
   rw [if_neg n1, if_neg n2, if_pos k3, hrn] at hT
   simp only [Bool.and_eq_true, Bool.not_eq_true', decide_eq_true_eq] at hT
   obtain ⟨j0, j1⟩ := r2 (.inl k3)
   have hn := hC.hn
   refine wN d1 (wN d2 (wC (OJ hC (j := a.Reader) j0 (by show (aA a).Reader < _; omega) hT.1) fun (y : Int × Int × TRr) hy => wN d3 (Cy (wN nd2 (ring q 0 _ Cq (vz (by omega)) (Me ⟨false, y.2.2⟩ rfl (fun j => ?_) rfl hy.1 ?_))))))
   · show (⟨_, _⟩ : Bx TRr) = cond (Nat.beq j _) _ _
     cases Nat.beq j e.Ring.toNat <;> rfl
   · unfold CK
     rw [if_neg n1, if_neg n2, if_pos k3, hrn, ← ha]; exact hy.2
 · have q := tk (by omega)
   obtain ⟨r1, r2, hC, hnil, hrn, d1, d2, d3⟩ := info q
   have hT := ht q
   unfold DU at hT
   rw [if_neg n1, if_neg n2, if_neg n3, if_pos k4, hrn] at hT
   obtain ⟨j0, j1⟩ := r2 (.inr k4)
   have hn := hC.hn
   refine wN d1 (wN d2 (wC (Kt hC h.hB (j := a.Reader) j0 (by show (aA a).Reader < _; omega) he.tk.1 hT) fun (y : Int × Int × TRr) hy => wN d3 (Cy (wN nd2 (ring q _ _ ?_ ?_ (Me ⟨false, y.2.2⟩ rfl (fun j => ?_) rfl hy.2.1 ?_))))))
   · rw [hy.1, ← hrn]; exact IE (NO h.uv _) _
   · rw [hy.1, ← hrn, if_pos k4]
   · show (⟨_, _⟩ : Bx TRr) = cond (Nat.beq j _) _ _
     cases Nat.beq j e.Ring.toNat <;> rfl
   · unfold CK
     rw [if_neg n1, if_neg n2, if_neg n3, if_pos k4, hrn, ← ha]; exact hy.2.2
 · have q := tk (by omega)
   obtain ⟨r1, r2, hC, hnil, hrn, d1, d2, d3⟩ := info q
   refine wN d1 (wN d2 (wC (M9 _) fun (y : Int × TRr) hy => wN d3 (Cy (wN nd2 (ring q 0 _ Cq (vz (by omega)) (Me ⟨false, y.2⟩ rfl (fun j => ?_) rfl ?_ ?_))))))
   · show (⟨_, _⟩ : Bx TRr) = cond (Nat.beq j _) _ _
     cases Nat.beq j e.Ring.toNat <;> rfl
   · subst hy; exact ⟨hC.wf.sn, hC.wf.rd, hC.wf.ms, hC.wf.hz, hC.wf.lz, hC.wf.hn, hC.wf.ln⟩
   · subst hy
     unfold CK
     rw [if_neg n1, if_neg n2, if_neg n3, if_neg n4, if_pos k13, hrn]; rfl
 · have q : A1 e.Kind = false := Bool.eq_false_iff.2 fun z => by rw [Aw] at z; omega
   refine AE ieI (fun k8 => ?_) fun n8 => AE ieI (fun k10 => ?_) fun n10 => AE ieI (fun k11 => ?_) fun n11 => ?_
   · refine fin 0 f.rings _ _ _ Cq (vz n4) hfr h.wf.rw (rgs q) ?_ (rd (by omega)) (en (by omega))
     unfold Ai; simp only; rw [if_pos k8, Ug]; rfl
   · refine fin 0 f.rings _ _ _ Cq (vz n4) hfr h.wf.rw (rgs q) (nw n8) ?_ (en (by omega))
     unfold Ai; simp only; rw [if_pos k10]; rfl
   · refine fin 0 f.rings _ _ _ Cq (vz n4) hfr h.wf.rw (rgs q) (nw n8) (rd n10) ?_
     unfold Ai; simp only; rw [if_pos k11]
   · exact fin 0 f.rings _ _ _ Cq (vz n4) hfr h.wf.rw (rgs q) (nw n8) (rd n10) (en n11)
theorem FC.grow (h : FC p B k f) (hB : B + 1 ≤ 2305843009213693952) (hk : k + 1 ≤ 1000000000) : FC p (B + 1) (k + 1) f :=
 ⟨h.hp, h.inv.mono (by omega), ⟨h.wf.cp, h.wf.tn, fun t ht => (h.wf.tw t ht).grow (by omega), h.wf.rn, h.wf.rw⟩, h.uv, hB, hk⟩
theorem OM (h : FC p B k f) (he : Qg e) (hB : B + 1 ≤ 2305843009213693952) (hk : k + 1 ≤ 1000000000) : D_f2k.wp (e, f) fun y => y.1 = (P5 (aP p) (aF f) e).1 ∧ aF y.2 = (P5 (aP p) (aF f) e).2 ∧ FC p (B + 1) (k + 1) y.2 := by
 refine of_wp ?_
 simp only [tt_f2k]
 refine wC (HQ h he) fun (y : Int) hy => ?_
 subst hy
 unfold P5
 refine AE (p := EE (aP p) (aF f) e ≠ 0) (by rw [bnI, ieI]) (fun q => ?_) fun q => wC (GQ h he) fun (y : Bool) hy => ?_
 · rw [if_pos q]; exact ⟨rfl, rfl, h.grow hB hk⟩
 · subst hy
   rw [if_neg q]
   refine AE bnI (fun q2 => ?_) fun q2 => ?_
   · rw [if_pos (by simpa using q2)]; exact ⟨rfl, rfl, h.grow hB hk⟩
   · have hA := Classical.byContradiction q2
     rw [if_neg (by rw [hA]; simp)]
     obtain ⟨F, _, hm⟩ := Dr hA
     exact wC (ME h he F (fun z => LU (p := aP p) hm F.re z) hB hk) fun (y : TFa) hy => ⟨rfl, hy⟩
end
section
variable {p : TPg} {B : Int} {k : Nat} {f : TFa}
theorem NB (f : TFa) : D_f1k.wp f fun y => y = f.now := CF rfl
theorem H6 (h : FC p B k f) (i : Int) : D_ff.wp (i, f) fun y => (0 ≤ i ∧ i < p.AF.n → y.nil = false ∧ QS (p.AF.get i.toNat) y.x ∧ aR y.x = CS (aF f) i) ∧ (¬ (0 ≤ i ∧ i < p.AF.n) → y.nil = true) := by
 have hfr := h.wf.rn
 refine CF ?_
 simp only [tt_ff]
 refine AE ilI (fun q => ⟨fun z => by omega, fun _ => rfl⟩) fun q1 => AE leI (fun q => wN (by simp) ⟨fun z => by omega, fun _ => rfl⟩) fun q2 => wN (by simp) (of_wp ?_)
 have h0 : 0 ≤ i := by omega
 have h1 : i < p.AF.n := by omega
 obtain ⟨hC, hnil, hrn⟩ := h.ring h0 h1
 have hi : i.toNat < p.AF.n := by omega
 have hcp := h.wf.cp
 have hb := h.hB
 simp only [tt_ff_3, Nat.zero_add]
 refine wN (by rw [ibI, hcp.r.n]; omega) (wN (by rw [ibI]; omega) (wN (by simp [hnil]) (wC (Gn (p.AF.get i.toNat) _ hC.rg hC.wf) fun (s : TRs) hs => ?_)))
 obtain ⟨e1, e2, e3⟩ := hs
 rw [hcp.r.g _ hi]
 have hI := hC.inv
 rw [← e1] at hI
 refine wC (w_fb (p.AF.get i.toNat) s hC.rg (Qf hC.rg hI (by omega) e2 e3)) fun (z : Bx TRr × Int) hz => wN (by simp [hnil]; omega) (Cy (wN (by simp) ?_))
 rcases hz with ⟨_, _, zn, zw, za⟩ | ⟨hno, _⟩
 · exact ⟨fun _ => ⟨zn, zw, by rw [za, e1, hrn]⟩, fun z => absurd ⟨h0, h1⟩ z⟩
 · exact absurd (Oa hC.rg hI (by omega)) hno
theorem Uc (h : FC p B k f) : VU (aF f) where
 tn := by have := h.small; have := h.wf.tn; have : (8 : Nat) ≤ maxLen := by decide
          simp [aF]; omega
 rn := by have := h.small; have := h.wf.rn; have : (8 : Nat) ≤ maxLen := by decide
          simp [aF]; omega
 ts t ht := by
  have hk := h.hk
  have : (1000000000 : Nat) ≤ maxLen := by decide
  simp only [aF, List.mem_map] at ht
  obtain ⟨x, hx, rfl⟩ := ht
  obtain ⟨i, hi, rfl⟩ := Sl.Ct.1 hx
  have := (h.wf.tw i hi).sb
  simp only [aT, Sl.Bb]; omega
 rs r hr := by
  have : (64 : Nat) ≤ maxLen := by decide
  have hrn := h.wf.rn
  simp only [aF, List.mem_map] at hr
  obtain ⟨x, hx, rfl⟩ := hr
  obtain ⟨i, hi, rfl⟩ := Sl.Ct.1 hx
  obtain ⟨hC, _⟩ := h.ring (i := (i : Int)) (Int.natCast_nonneg i) (by omega)
  rw [Int.toNat_natCast] at hC
  have := hC.hn
  have := hC.ln
  simp only [aR, Sl.Bb]; omega
end
theorem Ud (p : TPg) (hp : Ib p) : D_f1r.wp (p, 100) fun y => y = true → p.AF.n ≤ 10 ∧ p.AB.n ≤ 10 ∧ ∀ t, t < p.AB.n → (p.AB.get t).n ≤ 100 := by
 refine of_wp ?_
 simp only [tt_f1r]
 refine AE ilI (fun _ => fun h => by cases h) fun h1 => AE ilI (fun _ => fun h => by cases h) fun h2 => of_wp ?_
 simp only [tt_f1r_3]
 refine DN (tt := tt_f1r_5) (fun x : X_f1r_5 => x.HZ = 100 ∧ x.Sx = p ∧ ∃ k : Nat, x.Kj = k ∧ k ≤ p.AB.n ∧ ∀ t, t < k → (p.AB.get t).n ≤ 100) (fun x => (p.AB.n - x.Kj).toNat) (fun _ y => y = true → p.AF.n ≤ 10 ∧ p.AB.n ≤ 10 ∧ ∀ t, t < p.AB.n → (p.AB.get t).n ≤ 100) (fun D x hI hD => ?_) ⟨rfl, rfl, 0, rfl, Nat.zero_le _, fun t ht => by omega⟩
 obtain ⟨m, p', n, i⟩ := x
 obtain ⟨e0, e1, k, e2, hk, hg⟩ := hI
 simp only at e0 e1 e2 hg hD
 subst e0 e1 e2
 simp only [tt_f1r_5]
 refine AE ilI (fun h => ?_) fun h => fun _ => ⟨by omega, by omega, fun t ht => hg t (by omega)⟩
 have hkm : k < p'.AB.n := by omega
 refine wN (A2 hkm) ?_
 rw [Int.toNat_natCast]
 refine AE ilI (fun _ => fun h => by cases h) fun h3 => wN (A2 hkm) ?_
 rw [Cu hkm hp.tn]
 refine hD _ ⟨rfl, rfl, k + 1, rfl, hkm, fun t ht => ?_⟩ (by simp only; omega)
 by_cases e : t = k
 · subst e; omega
 · exact hg t (by omega)
theorem law_f44 (p : TPg) (hp : Ib p) : D_f44.wp p fun y => y = true ↔ EZ (aP p) := by
 refine of_wp ?_
 simp only [tt_f44]
 exact wC (w_f43 p hp) fun (y : Bool) hy => hy
structure Wl (l : Sl TEv) : Prop where
 n : l.n ≤ maxLen
 e : ∀ i, i < l.n → Qg (l.get i)
theorem Vj {p q : TPg} (hp : Ib p) (hc : HJ q p) (hP : EZ (aP p)) {f : TFa} (hF : WG q 0 f) (ha : aF f = CA (aP q)) : FC p 1 0 f ∧ aF f = CA (aP p) := by
 have hqp := hc.same
 rw [hqp] at ha
 have h1 := hF.cp
 have cp : HJ f.p p := ⟨⟨h1.r.n.trans hc.r.n, fun i hi => (h1.r.g i (by rw [hc.r.n]; exact hi)).trans (hc.r.g i hi)⟩, h1.rz, h1.n.trans hc.n, fun t ht => by
  have a := h1.t t (by rw [hc.n]; exact ht)
  have b := (hc.t t ht).1
  exact ⟨⟨a.1.n.trans b.n, fun i hi => (a.1.g i (by rw [b.n]; exact hi)).trans (b.g i hi)⟩, a.2⟩⟩
 refine ⟨⟨hp, by rw [ha]; exact Ql hP, ⟨cp, hF.tn.trans hc.n, hF.tw, hF.rn.trans hc.r.n, fun i hi => ?_⟩, by rw [ha]; exact Tt, by decide, by decide⟩, ha⟩
 have := hF.rw i hi
 have hi' : i < p.AF.n := by have := hF.rn; have := hc.r.n; omega
 rw [hc.r.g i hi'] at this
 exact this
theorem WU {p : TPg} (hp : Ib p) : HJ p p := ⟨Ds.refl _, hp.rz, rfl, fun t ht => ⟨Ds.refl _, hp.lz t ht⟩⟩
section
variable {p : TPg} {B : Int} {k : Nat} {f : TFa}
theorem OC (h : FC p B k f) : D_f1.wp f fun y => aS y = aF f ∧ Tu k y := Kx p k f (by have := h.hk; omega) h.inv.pi h.wf
end
def Kq (x : AZ) : EN := ⟨x.Bj, x.Du, x.Gj, x.Hh⟩
def zE : TEv := ⟨0, 0, 0, 0, 0⟩
def S1 : Option TEv → TEv × Bool
 | some e => (e, true)
 | none => (zE, false)
def An (o : Option TEv) (e : TEv) (b : Bool) : Prop := o = some e ∧ b = true ∨ o = none ∧ b = false
structure SJ (t : Sl Int) : Prop where
 n : t.n ≤ maxLen
 u : ∀ i, i < t.n → B0 (t.get i)
structure P0 (x : AZ) : Prop where
 c : B0 x.Du
 d : B0 x.Gj
theorem SJ.mem {t : Sl Int} (h : SJ t) : ∀ x ∈ t.L, B0 x := fun x hx => by
 obtain ⟨i, hi, rfl⟩ := Sl.Ct.1 hx
 exact h.u i hi
section
variable {p : TPg} {B : Int} {k : Nat} {f : TFa} {tape : Sl Int} {x : AZ}
theorem FC.Vy (h : FC p B k f) {i : Int} (h0 : 0 ≤ i) (h1 : i < p.AF.n) {r : TRr} (hw : QS (p.AF.get i.toNat) r) (he : aR r = CS (aF f) i) : RC (p.AF.get i.toNat) B r := by
 have hB := h.hB
 have hR := h.inv.K7 (i := i) (by simp [aP]; omega)
 rw [IW h0 h1, ← he] at hR
 exact ⟨hR.2, hw, hR.1, by omega⟩
theorem VR (h : FC p B k f) (t : Int) : D_f1o.wp (t, f) fun y => (0 ≤ t ∧ t < p.AB.n → y.2 = 0 ∧ aA y.1 = Ak (aP p) (aF f) t) ∧ (¬(0 ≤ t ∧ t < p.AB.n) → y.2 ≠ 0) := by
 have htn := h.wf.tn
 refine CF ?_
 simp only [tt_f1o]
 refine wC (Gp t f) fun (y : Bool) hy => ?_
 refine AE bnI (fun q => ⟨fun hh => absurd (hy.2 (by omega)) q, fun _ => by simp⟩) fun q => ?_
 have hy := hy.1 (Classical.byContradiction q)
 exact wC (Gq h hy.1 (by omega)) fun (z : TAk) hz => ⟨fun _ => ⟨rfl, hz⟩, fun hh => absurd ⟨hy.1, by omega⟩ hh⟩
theorem TC (a : TAk) (c fire : Bool) : D_f3v.wp (a, (c, fire)) fun y => y = if c = true then (6, true) else if a.Mode = 0 then (5, true) else if a.Mode = 2 ∧ fire = true then (7, true) else (0, false) := by
 refine of_wp ?_
 simp only [tt_f3v]
 refine Aq (fun q => by rw [if_pos q]; rfl) fun q => ?_
 rw [if_neg q]
 refine AE ieI (fun q => by rw [if_pos q]; rfl) fun q => ?_
 rw [if_neg q]
 refine AE ieI (fun q1 => Aq (fun q2 => by rw [if_pos ⟨q1, q2⟩]; rfl) fun q2 => by rw [if_neg fun z => q2 z.2]; rfl) fun q1 => ?_
 rw [if_neg fun z => q1 z.1]; rfl
theorem Rp (h : FC p B k f) {a : TAk} {pk ck dr : Int} {fire : Bool} {tp : List Int} {none : Bool} {r : TRr} {z : TEv} (ha : aA a = Ak (aP p) (aF f) pk) (hk : a.Kind = 1 ∨ a.Kind = 2)
 (hr : aR r = CS (aF f) a.Ring) (hj : 0 ≤ a.Reader ∧ a.Reader < r.AA.AD.n) (hn : none = CG (CS (aF f) a.Ring) (aA a)) :
 D_ft_5.wp ⟨fire, a, none, f, ⟨pk, 0, 0, 0, 0⟩, z, r⟩ fun y => An (BH (aP p) (aF f) tp pk ck dr fire) y.1 y.2.1 := by
 refine of_wp ?_
 rw [IY (by rw [← ha]; exact hk), ← ha]
 simp only [tt_ft_5]
 show TT.wp _ fun (y : RR_ft) => An (if CG (CS (aF f) a.Ring) (aA a) = true then (if (CS (aF f) a.Ring).As = true then some ⟨pk, 6, a.Ring, 0, 0⟩ else if a.Mode = 0 then some ⟨pk, 5, a.Ring, 0, 0⟩ else if a.Mode = 2 ∧ fire = true then some ⟨pk, 7, a.Ring, 0, 0⟩ else Option.none)
  else if a.Kind = 1 then some ⟨pk, 1, a.Ring, (CS (aF f) a.Ring).A0, 0⟩ else some ⟨pk, 3, a.Ring, hd (CS (aF f) a.Ring) a.Reader, 0⟩) y.1 y.2.1
 rw [← hn, ← hr]
 refine Aq (fun q => ?_) fun q => ?_
 · rw [if_pos q]
   refine wC (C5 _) fun (y : Bool) hy => ?_
   subst hy
   refine wC (TC a r.closed fire) fun (w : Int × Bool) hw => ?_
   subst hw
   show An (if r.closed = true then _ else _) _ _
   by_cases q1 : r.closed = true
   · rw [if_pos q1, if_pos q1]; exact .inl ⟨rfl, rfl⟩
   rw [if_neg q1, if_neg q1]
   by_cases q2 : a.Mode = 0
   · rw [if_pos q2, if_pos q2]; exact .inl ⟨rfl, rfl⟩
   rw [if_neg q2, if_neg q2]
   by_cases q3 : a.Mode = 2 ∧ fire = true
   · rw [if_pos q3, if_pos q3]; exact .inl ⟨rfl, rfl⟩
   rw [if_neg q3, if_neg q3]; exact .inr ⟨rfl, rfl⟩
 · rw [if_neg q]
   refine wC (Jz a.Reader r hj.1 hj.2) fun (y : Int) hy => ?_
   subst hy
   refine AE ieI (fun q1 => wC (HP r) fun (y : Int) hy => ?_) fun q1 => ?_
   · subst hy; rw [if_pos q1]; exact .inl ⟨rfl, rfl⟩
   · rw [if_neg q1]
     exact .inl ⟨by rw [Mp hj.1 hj.2], rfl⟩
theorem Ox (h : FC p B k f) {a : TAk} {pk ck dr : Int} {fire : Bool} {tp : List Int} (ha : aA a = Ak (aP p) (aF f) pk) (hk : a.Kind = 1 ∨ a.Kind = 2) (h0 : 0 ≤ pk) (h1 : pk < p.AB.n) :
 D_ft.wp (a, (⟨pk, 0, 0, 0, 0⟩, (fire, f))) fun y => An (BH (aP p) (aF f) tp pk ck dr fire) y.1 y.2 := by
 have htn := h.wf.tn
 have ek : (Ak (aP p) (aF f) pk).Kind = a.Kind := by rw [← ha]; rfl
 have er : (Ak (aP p) (aF f) pk).Ring = a.Ring := by rw [← ha]; rfl
 have ed : (Ak (aP p) (aF f) pk).Reader = a.Reader := by rw [← ha]; rfl
 obtain ⟨r0, r1, r2⟩ := Gh h.inv (t := pk) (by simp [aF]; omega) rfl (by omega)
 have hs := Tp (p := aP p) (m := aF f) (t := pk)
 rw [er] at r0 r1 r2
 rw [ek, ed] at r2 hs
 have r1 : a.Ring < p.AF.n := by simp [aP] at r1; omega
 rw [IW r0 r1] at r2
 refine CF ?_
 simp only [tt_ft]
 refine wC (H6 h a.Ring) fun (y : Bx TRr) hy => ?_
 obtain ⟨yn, yw, ya⟩ := hy.1 ⟨r0, r1⟩
 have hC := h.Vy r0 r1 yw ya
 have hn := hC.hn
 have hj : 0 ≤ a.Reader ∧ a.Reader < y.x.AA.AD.n := by
  rcases hk with q | q
  · have := hs q; omega
  · have := r2 (.inl q); omega
 have L5 := fun none hn => Rp (p := p) (ck := ck) (dr := dr) (tp := tp) (fire := fire) (none := none) (z := ⟨0, 0, 0, 0, 0⟩) h ha hk ya hj hn
 refine wN (by simp [yn]) (wC (Eg a.Reader hj.1 hj.2) fun (em : Bool) he => ?_)
 refine AE ieI (fun q => wC (C5 _) fun (c : Bool) hc => Aq (fun qc => ?_) fun qc => wC (F4 hC) fun (fu : Bool) hf => ?_) fun q => ?_
 · refine L5 true ?_
   unfold CG; rw [if_pos (show (aA a).Kind = 1 from q), ← ya, ← hc, qc]; rfl
 · refine L5 fu ?_
   unfold CG; rw [if_pos (show (aA a).Kind = 1 from q), ← ya, ← hc, show c = false by simpa using qc, hf]; rfl
 · refine L5 em ?_
   unfold CG; rw [if_neg (show ¬ (aA a).Kind = 1 from q), ← ya, he]; rfl
theorem UZ (h : FC p B k f) (hr : 0 ≤ f.reads) (ht : SJ tape) (pk : Int) : D_f1e.wp (tape, (⟨pk, 0, 0, 0, 0⟩, f)) fun y => y = if f.ended = true ∨ (tape.n : Int) ≤ f.reads then ⟨pk, 11, 0, 0, 0⟩ else ⟨pk, 10, 0, 0, tape.L.getD f.reads.toNat 0⟩ := by
 have hm := GZ ht.n
 refine CF ?_
 simp only [tt_f1e]
 refine wC (OC h) fun (y : TSt) hy => ?_
 have e1 : y.BO = f.ended := congrArg MS.BO hy.1
 have e2 : y.Reads = f.reads := congrArg MS.Reads hy.1
 have e3 : IntKind.u64.wrap ((tape.n : Nat) : Int) = tape.n := by
  simp only [IntKind.wrap, IntKind.signed, IntKind.bits, Bool.false_and, Bool.false_eq_true, if_false]; omega
 rw [e1, e2, e3]
 refine Aq (fun q => by rw [if_pos (.inl q)]; rfl) fun q => AE leI (fun q2 => by rw [if_pos (.inr q2)]; rfl) fun q2 => of_wp ?_
 rw [if_neg (fun z => z.elim q q2)]
 simp only [tt_f1e_5, e2]
 refine wN (by rw [ibI]; omega) ?_
 rw [G8 tape hr (by omega)]
 rfl
end
theorem U4 {p : MP} {m : MS} {tp : List Int} {pk ck dr : Int} {fire : Bool} {e : TEv} {b : Bool} (h0 : 0 ≤ pk) (h1 : pk < m.AB.length) (hc : BH p m tp pk ck dr fire = some e) (hb : b = Bf p m e) : An (B3 p m tp pk ck dr fire) e b := by
 unfold B3
 rw [if_neg (by omega), hc]
 simp only
 subst hb
 cases q : Bf p m e
 · exact .inr ⟨by simp, rfl⟩
 · exact .inl ⟨by simp, rfl⟩
theorem Kr {p : MP} {m : MS} {tp : List Int} {pk ck dr : Int} {fire : Bool} {e : TEv} (hc : BH p m tp pk ck dr fire = none) : An (B3 p m tp pk ck dr fire) e false := by
 refine .inr ⟨?_, rfl⟩
 unfold B3
 split
 · rfl
 rw [hc]
theorem RE {o : Option TEv} {e : TEv} {b : Bool} (h : An o e b) : (if b = true then (e, true) else (zE, false)) = S1 o := by
 rcases h with ⟨h1, h2⟩ | ⟨h1, h2⟩ <;> subst h1 h2 <;> rfl
section
variable {p : TPg} {B : Int} {k : Nat} {f : TFa} {tape : Sl Int} {x : AZ}
theorem Oy (h : FC p B k f) (ht : SJ tape) (hx : P0 x) (h0 : 0 ≤ x.Bj) (h1 : x.Bj < p.AB.n) {z e : TEv} (hc : BH (aP p) (aF f) tape.L x.Bj x.Du x.Gj x.Hh = some e) :
 D_fg_26.wp ⟨f, z, e⟩ fun y => An (H0 (aP p) tape.L (aF f) (Kq x)) y.1 y.2.1 := by
 have htn := h.wf.tn
 refine of_wp ?_
 simp only [tt_fg_26]
 have hl : x.Bj < (aF f).AB.length := by simp [aF]; omega
 have hu := Ls h.inv h.hB (h.Q1 h0 h1) hx.d ht.mem h0 hl hc
 exact wC (GQ h ⟨hu.1, hu.2⟩) fun (y : Bool) hy => U4 h0 hl hc hy
theorem Rl (h : FC p B k f) (hr : 0 ≤ f.reads) (ht : SJ tape) (hx : P0 x) (h0 : 0 ≤ x.Bj) (h1 : x.Bj < p.AB.n) {a : TAk} (ha : aA a = Ak (aP p) (aF f) x.Bj) :
 D_fg.wp (tape, (a, (x, f))) fun y => An (H0 (aP p) tape.L (aF f) (Kq x)) y.1 y.2 := by
 have htn := h.wf.tn
 have hl : x.Bj < (aF f).AB.length := by simp [aF]; omega
 have ek : (Ak (aP p) (aF f) x.Bj).Kind = a.Kind := by rw [← ha]; rfl
 have er : (Ak (aP p) (aF f) x.Bj).Ring = a.Ring := by rw [← ha]; rfl
 have htop := Q0 h.inv (t := x.Bj) (by omega)
 rw [ek] at htop
 have L := fun e hc => Oy (x := x) (z := ⟨0, 0, 0, 0, 0⟩) (e := e) h ht hx h0 h1 hc
 have hcl := hx.c
 have hto : ∀ e b, a.Kind = 1 ∨ a.Kind = 2 → An (BH (aP p) (aF f) tape.L x.Bj x.Du x.Gj x.Hh) e b → An (H0 (aP p) tape.L (aF f) (Kq x)) e b := fun e b q hh => by
  show An (B3 (aP p) (aF f) tape.L x.Bj x.Du x.Gj x.Hh) _ _
  rw [OO h.inv h.hB h0 hl (by rw [ek]; exact q)]; exact hh
 refine CF ?_
 simp only [tt_fg]
 refine AE ieI (fun q => ?_) fun n0 => AE ieI (fun q => ?_) fun n1 => AE ieI (fun q => ?_) fun n2 => AE ieI (fun q => ?_) fun n10 => AE ieI (fun q => ?_) fun n11 => AE ieI (fun q => ?_) fun n3 =>
  AE ieI (fun q => ?_) fun n4 => AE ieI (fun q => ?_) fun n5 => AE ieI (fun q => ?_) fun n6 => AE ieI (fun q => ?_) fun n7 => AE ieI (fun q => ?_) fun n8 => AE ieI (fun q => ?_) fun n9 => by omega
 · show An (B3 (aP p) (aF f) tape.L x.Bj x.Du x.Gj x.Hh) _ _
   exact Kr (by unfold BH; simp only; rw [if_pos (by rw [ek]; exact q)])
 · exact wC (Ox (ck := x.Du) (dr := x.Gj) (tp := tape.L) h ha (.inl q) h0 h1) fun (y : TEv × Bool) hy => hto _ _ (.inl q) hy
 · exact wC (Ox (ck := x.Du) (dr := x.Gj) (tp := tape.L) h ha (.inr q) h0 h1) fun (y : TEv × Bool) hy => hto _ _ (.inr q) hy
 · exact L _ (by simp [BH, ← ha, aA, q])
 · exact L _ (by simp [BH, ← ha, aA, q])
 · obtain ⟨r0, r1, _⟩ := Gh h.inv (t := x.Bj) (by omega) rfl (by omega)
   rw [er] at r0 r1
   have r1 : a.Ring < p.AF.n := by simp [aP] at r1; omega
   refine wC (H6 h a.Ring) fun (y : Bx TRr) hy => ?_
   obtain ⟨yn, yw, ya⟩ := hy.1 ⟨r0, r1⟩
   refine wC (Q' := fun z => z = y.x.AA.tail) (of_wp (wN (by simp [yn]) rfl)) fun (z : Int) hz => L _ ?_
   subst hz
   have : (CS (aF f) a.Ring).A0 = y.x.AA.tail := by rw [← ya]; rfl
   simp [BH, ← ha, aA, q, this]
 · refine wC (NB f) fun (y : Int) hy => L _ ?_
   subst hy
   have : Int.tmod x.Du 1048576 = x.Du % 1048576 := Int.tmod_eq_emod_of_nonneg hcl.1
   simp [BH, ← ha, aA, q, this, show (aF f).Ec = f.now from rfl]
 · exact L _ (by simp [BH, ← ha, aA, q])
 · refine wC (UZ h hr ht x.Bj) fun (y : TEv) hy => L _ ?_
   subst hy
   simp only [BH, ← ha, aA, q, show (aF f).BO = f.ended from rfl, show (aF f).Reads = f.reads from rfl, Sl.Bb]
   simp only [Int.reduceEq, or_self, if_false, if_true]
   split <;> rfl
 · exact L _ (by simp [BH, ← ha, aA, q])
 · exact L _ (by simp [BH, ← ha, aA, q])
 · exact L _ (by simp [BH, ← ha, aA, q])
theorem TF (h : FC p B k f) (hr : 0 ≤ f.reads) (ht : SJ tape) (hx : P0 x) : D_f2q.wp (tape, (x, f)) fun y => y = S1 (H0 (aP p) tape.L (aF f) (Kq x)) := by
 have htn := h.wf.tn
 refine CF ?_
 simp only [tt_f2q]
 refine wC (VR h x.Bj) fun (y : TAk × Int) hy => ?_
 by_cases hin : 0 ≤ x.Bj ∧ x.Bj < p.AB.n
 · obtain ⟨y2, ya⟩ := hy.1 hin
   refine AE (p := y.2 ≠ 0) (by rw [bnI, ieI]) (fun q => absurd y2 q) fun _ => wC (Rl h hr ht hx hin.1 hin.2 ya) fun (w : TEv × Bool) hw => ?_
   rw [← RE hw]
   refine AE bnI (fun q => by rw [if_neg q]; rfl) fun q => ?_
   rw [if_pos (Classical.byContradiction q)]
   rfl
 · refine AE (p := y.2 ≠ 0) (by rw [bnI, ieI]) (fun _ => ?_) fun q => absurd (hy.2 hin) q
   have : H0 (aP p) tape.L (aF f) (Kq x) = none := by
    show B3 _ _ _ _ _ _ _ = none
    unfold B3
    rw [if_pos (by simp [aF, Kq]; omega)]
   rw [this]; rfl
def Vw (P : MP) (m : MS) (o : Option TEv) : MS := match o with | some e => Ai P m e | none => m
theorem JH {P : MP} {m : MS} {e : TEv} (h : 0 ≤ m.Reads) : 0 ≤ (Ai P m e).Reads := by
 show 0 ≤ (if e.Kind = 10 then IntKind.u64.wrap (m.Reads + 1) else m.Reads)
 split
 · simp only [IntKind.wrap, IntKind.signed, IntKind.bits, Bool.false_and, Bool.false_eq_true, if_false]; omega
 · exact h
theorem Ua (h : FC p B k f) (hr : 0 ≤ f.reads) (ht : SJ tape) (hx : P0 x) (hB : B + 1 ≤ 2305843009213693952) (hk : k + 1 ≤ 1000000000) :
 D_f3p.wp (tape, (x, f)) fun y => (y.1, y.2.1) = S1 (H0 (aP p) tape.L (aF f) (Kq x)) ∧ aF y.2.2 = Vw (aP p) (aF f) (H0 (aP p) tape.L (aF f) (Kq x)) ∧ FC p (B + 1) (k + 1) y.2.2 ∧ 0 ≤ y.2.2.reads := by
 have htn := h.wf.tn
 refine of_wp ?_
 simp only [tt_f3p]
 refine wC (TF h hr ht hx) fun (y : TEv × Bool) hy => ?_
 cases ho : H0 (aP p) tape.L (aF f) (Kq x) with
 | none =>
   rw [ho] at hy; subst hy
   exact Aq (fun q => by cases q) fun _ => ⟨rfl, rfl, h.grow hB hk, hr⟩
 | some e =>
   rw [ho] at hy; subst hy
   have hal := DZ (p := aP p) (m := aF f) ho
   have hin : x.Bj < p.AB.n := by have := hal.2.2; simp [aF, Kq] at this; omega
   have h0 : 0 ≤ x.Bj := hal.2.1
   have hu := Jh h.inv h.hB (h.Q1 h0 hin) hx.d ht.mem ho
   refine Aq (fun _ => ?_) fun q => absurd rfl q
   refine wC (OM h ⟨hu.1, hu.2⟩ hB hk) fun (w : Int × TFa) hw => ?_
   obtain ⟨_, w2, w3⟩ := hw
   have w2 : aF w.2 = (P5 (aP p) (aF f) e).2 := w2
   rw [IZ hal.1] at w2
   refine ⟨rfl, w2, w3, ?_⟩
   have : w.2.reads = (Ai (aP p) (aF f) e).Reads := congrArg MS.Reads w2
   show 0 ≤ w.2.reads
   rw [this]
   exact JH hr
end

theorem Ta (s : Sl TEv) (e : TEv) (b : Bool) : (Sl.mk b (s.n + 1) (fun i => TEv.mk (cond (Nat.blt i s.n) (s.get i).Thread e.Thread) (cond (Nat.blt i s.n) (s.get i).Kind e.Kind) (cond (Nat.blt i s.n) (s.get i).Ring e.Ring) (cond (Nat.blt i s.n) (s.get i).AG e.AG) (cond (Nat.blt i s.n) (s.get i).Value e.Value))).L = s.L ++ [e] := by
 rw [← Pp]
 refine RK rfl fun i => ?_
 simp only [snoc]
 cases Nat.blt i s.n <;> rfl
theorem OZ {P : MP} {tp : List Int} {l : List EN} {k : Nat} {x : EN} (h : l[k]? = some x) (r : WR) : Be P tp (l.take (k + 1)) r = CV P tp (Be P tp (l.take k) r) x := by
 unfold Be
 rw [List.take_add_one, h, List.foldl_append]
 rfl
theorem T4 {P : MP} {tp : List Int} {r : WR} (x : EN) (h : 0 ≤ r.Idle ∧ 0 ≤ r.Bd) : 0 ≤ (CV P tp r x).Idle ∧ 0 ≤ (CV P tp r x).Bd := by
 unfold CV
 split
 · exact h
 · split <;> simp only <;> omega
theorem Pu {P : MP} {tp : List Int} (l : List EN) : ∀ r : WR, 0 ≤ r.Idle ∧ 0 ≤ r.Bd → 0 ≤ (Be P tp l r).Idle ∧ 0 ≤ (Be P tp l r).Bd := by
 induction l with
 | nil => intro r h; exact h
 | cons x l ih => intro r h; exact ih _ (T4 x h)
structure UP (l : Sl AZ) : Prop where
 n : l.n ≤ maxLen
 e : ∀ i, i < l.n → P0 (l.get i)
def Gl (l : Sl AZ) : List EN := l.L.map Kq
theorem QY {l : Sl AZ} {k : Nat} (h : k < l.n) : (Gl l)[k]? = some (Kq (l.get k)) := by
 unfold Gl
 rw [List.getElem?_map, Sl.D2 _ h]; rfl
@[simp] theorem Im (l : Sl AZ) : (Gl l).length = l.n := by simp [Gl]
section
variable {f : TFa}
theorem Ub (t : Int) (f : TFa) : D_f1j.wp (t, f) fun y => y = !HF (aF f) t := by
 refine CF ?_
 simp only [tt_f1j, Nat.zero_add]
 refine wC (Gp t f) fun (y : Bool) hy => ?_
 refine Aq (fun q => ?_) fun q => ?_
 · obtain ⟨h0, h1⟩ := hy.1 q
   refine wN (by rw [ibI]; exact ⟨h0, h1⟩) (wN (by simp) (wN (by simp) ?_))
   show AW (f.threads.get t.toNat).Status 0 = !HF (aF f) t
   unfold HF
   rw [ID h0 h1, show ((aF f).AB.length : Int) = f.threads.n by simp [aF]]
   refine Bk ?_
   simp only [ieI, Bool.not_eq_true', decide_eq_false_iff_not]
   show (f.threads.get t.toNat).Status = 0 ↔ ¬(t < 0 ∨ (f.threads.n : Int) ≤ t ∨ (f.threads.get t.toNat).Status ≠ 0)
   omega
 · show false = !HF (aF f) t
   have : HF (aF f) t = true := by
    unfold HF
    rw [show ((aF f).AB.length : Int) = f.threads.n by simp [aF]]
    refine decide_eq_true ?_
    have : ¬ (0 ≤ t ∧ t < f.threads.n) := fun z => q (hy.2 z)
    omega
   rw [this]; rfl
end
structure SH (p : TPg) (tp : List Int) (l : List EN) (y : Ap) : Prop where
 ev : y.Ay.L = (Be (aP p) tp l (Gk (CA (aP p)))).Ev
 st : aS y.State = (Be (aP p) tp l (Gk (CA (aP p)))).St
 id : y.Idle = (Be (aP p) tp l (Gk (CA (aP p)))).Idle
 wt : y.Bd = (Be (aP p) tp l (Gk (CA (aP p)))).Bd
 fc : ∃ f, FC p (1 + l.length) l.length f ∧ aF f = (Be (aP p) tp l (Gk (CA (aP p)))).St ∧ 0 ≤ f.reads
 ok : Tu l.length y.State
 ee : ∀ i, i < y.Ay.n → Qg (y.Ay.get i)
theorem VQ {p q : TPg} (hp : Ib p) (hq : HJ q p) {tape : Sl Int} {script : Sl AZ} (ht : SJ tape) (hs : UP script) :
 D_fd.wp (q, (tape, script)) fun y => (EZ (aP p) ∧ script.n ≤ 65536 ∧ tape.n ≤ 65536 → y.2 = 0 ∧ SH p tape.L (Gl script) y.1) ∧ (¬ EZ (aP p) → y.2 = 1 ∧ y.1 = ⟨⟨true, 0, fun _ => ⟨0, 0, 0, 0, 0⟩⟩, ⟨⟨true, 0, fun _ => ⟨0, 0, 0, 0, 0, fun _ => 0, ⟨true, 0, fun _ => 0⟩⟩⟩, ⟨true, 0, fun _ => ⟨0, ⟨true, 0, fun _ => 0⟩, false, ⟨true, 0, fun _ => ⟨0, 0, 0⟩⟩⟩⟩, 0, 0, false⟩, 0, 0⟩) ∧
  (EZ (aP p) ∧ 65536 < script.n → y.2 = 4 ∧ y.1 = ⟨⟨true, 0, fun _ => ⟨0, 0, 0, 0, 0⟩⟩, ⟨⟨true, 0, fun _ => ⟨0, 0, 0, 0, 0, fun _ => 0, ⟨true, 0, fun _ => 0⟩⟩⟩, ⟨true, 0, fun _ => ⟨0, ⟨true, 0, fun _ => 0⟩, false, ⟨true, 0, fun _ => ⟨0, 0, 0⟩⟩⟩⟩, 0, 0, false⟩, 0, 0⟩) := by
 refine of_wp ?_
 simp only [tt_fd]
 refine wC (w_f1g q (hq.Ib hp) 0) fun (y : Bx TFa × Int) hy => ?_
 have hqs : aP q = aP p := hq.same
 rcases hy with ⟨hP, y2, yn, yF, ya⟩ | ⟨hno, y2, yn⟩
 rotate_left
 · rw [hqs] at hno
   refine AE (p := y.2 ≠ 0) (by rw [bnI, ieI]) (fun _ => ⟨fun z => absurd z.1 hno, fun _ => ⟨rfl, rfl⟩, fun z => absurd z.1 hno⟩) fun z => absurd (by omega) z
 rw [hqs] at hP
 refine AE (p := y.2 ≠ 0) (by rw [bnI, ieI]) (fun z => absurd y2 z) fun _ => AE ilI (fun z => ⟨fun w => by omega, fun w => absurd hP w, fun _ => ⟨rfl, rfl⟩⟩) fun h1 => AE ilI (fun z => ⟨fun w => by omega, fun w => absurd hP w, fun w => by omega⟩) fun h2 => of_wp ?_
 simp only [tt_fd_6]
 obtain ⟨hFC, ya⟩ := Vj hp hq hP yF ya
 have hsn : script.n ≤ 65536 := by omega
 refine wN (by simp [yn]) ?_
 refine DN (tt := tt_fd_8) (fun x : X_fd_8 => x.Bl = tape ∧ x.LD = script ∧ x.NT = script.n ∧ ∃ k : Nat, x.Jb = k ∧ k ≤ script.n ∧ FC p (1 + k) k x.SL ∧ 0 ≤ x.SL.reads ∧ aF x.SL = (Be (aP p) tape.L ((Gl script).take k) (Gk (CA (aP p)))).St ∧
  x.B4.Ay.L = (Be (aP p) tape.L ((Gl script).take k) (Gk (CA (aP p)))).Ev ∧ x.B4.Idle = (Be (aP p) tape.L ((Gl script).take k) (Gk (CA (aP p)))).Idle ∧ x.B4.Bd = (Be (aP p) tape.L ((Gl script).take k) (Gk (CA (aP p)))).Bd ∧ ∀ i, i < x.B4.Ay.n → Qg (x.B4.Ay.get i))
  (fun x => (script.n - x.Jb).toNat) (fun _ y => (EZ (aP p) ∧ script.n ≤ 65536 ∧ tape.n ≤ 65536 → y.2 = 0 ∧ SH p tape.L (Gl script) y.1) ∧ (¬ EZ (aP p) → y.2 = 1 ∧ y.1 = ⟨⟨true, 0, fun _ => ⟨0, 0, 0, 0, 0⟩⟩, ⟨⟨true, 0, fun _ => ⟨0, 0, 0, 0, 0, fun _ => 0, ⟨true, 0, fun _ => 0⟩⟩⟩, ⟨true, 0, fun _ => ⟨0, ⟨true, 0, fun _ => 0⟩, false, ⟨true, 0, fun _ => ⟨0, 0, 0⟩⟩⟩⟩, 0, 0, false⟩, 0, 0⟩) ∧
    (EZ (aP p) ∧ 65536 < script.n → y.2 = 4 ∧ y.1 = ⟨⟨true, 0, fun _ => ⟨0, 0, 0, 0, 0⟩⟩, ⟨⟨true, 0, fun _ => ⟨0, 0, 0, 0, 0, fun _ => 0, ⟨true, 0, fun _ => 0⟩⟩⟩, ⟨true, 0, fun _ => ⟨0, ⟨true, 0, fun _ => 0⟩, false, ⟨true, 0, fun _ => ⟨0, 0, 0⟩⟩⟩⟩, 0, 0, false⟩, 0, 0⟩)) (fun D x hI hD => ?_)
  ⟨rfl, rfl, rfl, 0, rfl, Nat.zero_le _, hFC, by have : y.1.x.reads = (CA (aP p)).Reads := congrArg MS.Reads ya; rw [this]; exact Int.le_refl _, ya, rfl, rfl, rfl, fun i hi => absurd hi (Nat.not_lt_zero i)⟩
 obtain ⟨t', s', q35, q36, m6, m10, f⟩ := x
 obtain ⟨e0, e1, e2, k, e3, hk, hF, hr, hst, hev, hid, hwt, hee⟩ := hI
 simp only at e0 e1 e2 e3 hF hr hst hev hid hwt hee hD
 subst e0 e1 e2 e3
 simp only [tt_fd_8]
 have hcnt := JY (p := aP p) (tape := t'.L) ((Gl s').take k) (Gk (CA (aP p)))
 have hnn := Pu (P := aP p) (tp := t'.L) ((Gl s').take k) (Gk (CA (aP p))) ⟨Int.le_refl _, Int.le_refl _⟩
 rw [← hev, ← hid, ← hwt] at hcnt
 rw [← hid, ← hwt] at hnn
 have hcnt : (m10.Ay.n : Int) + m10.Idle + m10.Bd = k := by
  simp only [Sl.Bb, Gk, List.length_nil, List.length_take, Im] at hcnt
  omega
 refine AE ilI (fun h => ?_) fun h => of_wp ?_
 · have hkm : k < s'.n := by omega
   refine wN (A2 hkm) ?_
   rw [Int.toNat_natCast]
   have hx := hs.e k hkm
   have hsn := OZ (P := aP p) (tp := t'.L) (QY hkm) (Gk (CA (aP p)))
   refine wC (Ua hF hr ht hx (by omega) (by omega)) fun (w : TEv × Bool × TFa) hw => ?_
   obtain ⟨w1, w2, w3, w4⟩ := hw
   rw [show (1 : Int) + k + 1 = 1 + ((k + 1 : Nat) : Int) by omega] at w3
   have hd : ∀ m10' : Ap, (m10'.Ay.L = (Be (aP p) t'.L ((Gl s').take (k + 1)) (Gk (CA (aP p)))).Ev ∧ aF w.2.2 = (Be (aP p) t'.L ((Gl s').take (k + 1)) (Gk (CA (aP p)))).St ∧ m10'.Idle = (Be (aP p) t'.L ((Gl s').take (k + 1)) (Gk (CA (aP p)))).Idle ∧ m10'.Bd = (Be (aP p) t'.L ((Gl s').take (k + 1)) (Gk (CA (aP p)))).Bd) → (∀ i, i < m10'.Ay.n → Qg (m10'.Ay.get i)) →
    (D_fd_16 D).wp ⟨t', s', (s'.n : Int), (k : Int), m6, m10', w.2.2⟩ _ := fun m10' hh h5 => of_wp (by
    simp only [tt_fd_16, Cu hkm hs.n]
    exact hD _ ⟨rfl, rfl, rfl, k + 1, rfl, hkm, w3, w4, hh.2.1, hh.1, hh.2.2.1, hh.2.2.2, h5⟩ (by simp only; omega))
   unfold CV at hsn
   rw [← hst] at hsn
   cases ho : H0 (aP p) t'.L (aF f) (Kq (s'.get k)) with
   | some e =>
     rw [ho] at w1 w2 hsn
     have w11 : w.1 = e := congrArg Prod.fst w1
     have w12 : w.2.1 = true := congrArg Prod.snd w1
     simp only at hsn
     refine Aq (fun _ => wN (by simp [room]; omega) ?_) fun z => absurd w12 z
     have hin : (s'.get k).Bj < p.AB.n := by have := (DZ (p := aP p) (m := aF f) ho).2.2; have := hF.wf.tn; simp [aF, Kq] at *; omega
     have hu := Jh hF.inv hF.hB (hF.Q1 (DZ (p := aP p) (m := aF f) ho).2.1 hin) hx.d ht.mem ho
     refine hd _ ⟨?_, ?_, ?_, ?_⟩ ?_
     · rw [hsn]; simp only
       rw [Ta, hev, w11]
     · rw [hsn, w2]; rfl
     · rw [hsn]; exact hid
     · rw [hsn]; exact hwt
     · intro i hi
       simp only at hi ⊢
       by_cases c : i < m10.Ay.n
       · rw [PE c]; exact hee i c
       · have : i = m10.Ay.n := by omega
         rw [this, PF, w11]; exact ⟨hu.1, hu.2⟩
   | none =>
     rw [ho] at w1 w2 hsn
     have w12 : w.2.1 = false := congrArg Prod.snd w1
     have w2 : aF w.2.2 = aF f := w2
     simp only at hsn
     refine Aq (fun z => by rw [w12] at z; cases z) fun _ => wC (Ub _ _) fun (r : Bool) hr' => ?_
     rw [show aF (TFa.mk w.2.2.p w.2.2.threads w.2.2.rings w.2.2.now w.2.2.reads w.2.2.ended) = aF f from w2] at hr'
     have hsel : (Kq (s'.get k)).Bj = (s'.get k).Bj := rfl
     rw [hsel] at hsn
     refine Aq (fun z => ?_) fun z => ?_
     · have hi : HF (aF f) (s'.get k).Bj = false := by rw [hr'] at z; simpa using z
       rw [if_neg (by rw [hi]; simp)] at hsn
       refine hd _ ⟨by rw [hsn]; exact hev, by rw [hsn, w2, hst], by rw [hsn]; exact hid, ?_⟩ hee
       rw [hsn]; simp only
       rw [wrap64 (by omega) (by omega), hwt]
     · have hi : HF (aF f) (s'.get k).Bj = true := by rw [hr'] at z; simpa using z
       rw [if_pos hi] at hsn
       refine hd _ ⟨by rw [hsn]; exact hev, by rw [hsn, w2, hst], ?_, by rw [hsn]; exact hwt⟩ hee
       rw [hsn]; simp only
       rw [wrap64 (by omega) (by omega), hid]
 · have e : k = s'.n := by omega
   subst e
   simp only [tt_fd_17]
   have et : (Gl s').take s'.n = Gl s' := List.take_of_length_le (by simp)
   rw [et] at hst hev hid hwt
   refine wC (OC hF) fun (w : TSt) hw => ⟨fun _ => ⟨rfl, ?_⟩, fun z => absurd hP z, fun z => by omega⟩
   exact ⟨hev, hw.1.trans hst, hid, hwt, ⟨f, by rw [Im]; exact hF, hst, hr⟩, by rw [Im]; exact hw.2, hee⟩
theorem TE (a b : Sl TEv) (h : a.L = b.L) (hn : a.n ≤ maxLen) : D_f24.wp (a, b) fun y => y = true := by
 obtain ⟨h1, h2⟩ := Sl.Q6 h
 refine of_wp ?_
 simp only [tt_f24]
 refine AE (p := (a.n : Int) ≠ b.n) (by rw [bnI, ieI]) (fun z => by omega) fun _ => ?_
 refine C4 (tt := tt_f24_4) (fun k => (⟨a, b, (k : Int)⟩ : X_f24_4)) a.n (fun _ => True) (fun y => y = true) (fun D _ => ?_) (fun D k hk _ hD => ?_) (Nat.zero_le _) trivial
 · simp only [tt_f24_4]
   exact AE ilI (fun z => by omega) fun _ => rfl
 · simp only [tt_f24_4]
   refine AE ilI (fun _ => wN (A2 hk) (wN (A2 (by omega)) ?_)) fun z => by omega
   rw [Int.toNat_natCast, h2 k hk, Cu hk hn]
   refine Aq (fun z => ?_) fun _ => hD trivial
   simp [AW] at z
theorem ND : D_f3i.ev 1000 PUnit.unit = some true := by kernel_rfl
theorem TD : D_f3i.wp PUnit.unit fun y => y = true := ⟨true, D_f3i.H3 1000 _ _ ND, rfl⟩
theorem Wk (p : TPg) (hp : Ib p) : D_f4k.wp p fun y => y = true → EZ (aP p) := by
 refine of_wp ?_
 simp only [tt_f4k]
 refine wC (Ud p hp) fun (y : Bool) _ => Aq (fun _ => wC (law_f44 p hp) fun (z : Bool) hz => hz.1) fun _ => fun h => by cases h
theorem SH.len {p : TPg} {tp : List Int} {l : List EN} {y : Ap} (h : SH p tp l y) : VU (aS y.State) := by
 obtain ⟨f, hF, he, _⟩ := h.fc
 rw [h.st, ← he]
 exact Uc hF
theorem SH.cnt {p : TPg} {tp : List Int} {l : List EN} {y : Ap} (h : SH p tp l y) : (y.Ay.n : Int) + y.Idle + y.Bd = l.length ∧ 0 ≤ y.Idle ∧ 0 ≤ y.Bd := by
 have hcnt := JY (p := aP p) (tape := tp) l (Gk (CA (aP p)))
 have hnn := Pu (P := aP p) (tp := tp) l (Gk (CA (aP p))) ⟨Int.le_refl _, Int.le_refl _⟩
 rw [← h.ev, ← h.id, ← h.wt] at hcnt
 rw [← h.id, ← h.wt] at hnn
 simp only [Sl.Bb, Gk, List.length_nil] at hcnt
 omega
theorem We (s : Sl AZ) (x : AZ) (b : Bool) : Gl (Sl.mk b (s.n + 1) (fun i => AZ.mk (cond (Nat.blt i s.n) (s.get i).Bj x.Bj) (cond (Nat.blt i s.n) (s.get i).Du x.Du) (cond (Nat.blt i s.n) (s.get i).Gj x.Gj) (cond (Nat.blt i s.n) (s.get i).Hh x.Hh))) = Gl s ++ [Kq x] := by
 have : (Sl.mk b (s.n + 1) (fun i => AZ.mk (cond (Nat.blt i s.n) (s.get i).Bj x.Bj) (cond (Nat.blt i s.n) (s.get i).Du x.Du) (cond (Nat.blt i s.n) (s.get i).Gj x.Gj) (cond (Nat.blt i s.n) (s.get i).Hh x.Hh))).L = s.L ++ [x] := by
  rw [← Pp]
  refine RK rfl fun i => ?_
  simp only [snoc]
  cases Nat.blt i s.n <;> rfl
 unfold Gl
 rw [this, List.map_append]; rfl
theorem Wd (s : Sl Int) (v : Int) (b : Bool) : (Sl.mk b (s.n + 1) (fun i => cond (Nat.blt i s.n) (s.get i) v)).L = s.L ++ [v] := by
 rw [← Pp]
 exact RK rfl fun i => rfl
section
variable {P : MP} {m0 m : MS} {l : List TEv} {e : TEv} {k : Nat}
theorem WZ (h : Jn P (l.take k) m0 = some m) (he : l[k]? = some e) (ha : Bf P m e = true) : Jn P (l.take (k + 1)) m0 = some (Ai P m e) := by
 rw [List.take_add_one, he, all_append, h]
 simp [Jn, ha]
theorem WY (h : Jn P (l.take k) m0 = some m) (he : l[k]? = some e) (ha : Bf P m e = false) : Jn P l m0 = none := by
 have hk : k < l.length := (List.getElem?_eq_some_iff.1 he).1
 have e1 : l[k] = e := (List.getElem?_eq_some_iff.1 he).2
 have : l = l.take k ++ e :: l.drop (k + 1) := by rw [← e1, List.getElem_cons_drop, List.take_append_drop]
 rw [this, all_append, h]
 simp [Jn, ha]
theorem WX : ∀ (a : List TEv) {m0 m : MS}, Jn P a m0 = some m → UY P (a ++ [e]) m0 = UY P a m0 ++ [WW m e] := by
 intro a
 induction a with
 | nil => intro m0 m h; cases h; rfl
 | cons x a ih =>
   intro m0 m h
   simp only [Jn] at h
   split at h
   · show WW m0 x :: UY P (a ++ [e]) _ = WW m0 x :: (UY P a _ ++ [WW m e])
     rw [ih h]
   · cases h
theorem WM : ∀ (a : List TEv) (m0 : MS), (UY P a m0).length = a.length := by
 intro a
 induction a with
 | nil => intro m0; rfl
 | cons x a ih => intro m0; simp [UY, ih]
theorem WT : Ha (l ++ [e]) = if e.Kind = 10 then Ha l ++ [e.Value] else Ha l := by
 unfold Ha
 rw [List.filter_append, List.map_append]
 split
 · rename_i h; simp [h]
 · rename_i h; simp [h]
theorem WK : (Ha l).length ≤ l.length := by
 unfold Ha
 rw [List.length_map]
 exact List.length_filter_le _ _
theorem WL (he : l[k]? = some e) : l.take (k + 1) = l.take k ++ [e] := by rw [List.take_add_one, he]; rfl
theorem Wf : ∀ (a : List TEv) (m0 : MS), (∀ x ∈ a, B0 x.Value) → ∀ x ∈ UY P a m0, B0 x.Du ∧ B0 x.Gj := by
 intro a
 induction a with
 | nil => intro m0 _ x h; cases h
 | cons y a ih =>
   intro m0 h x hx
   rcases List.mem_cons.1 hx with rfl | hx
   · have hy := h y (List.mem_cons_self ..)
     refine ⟨?_, ?_⟩
     · show B0 (if y.Kind = 8 then _ else 0)
       split
       · simp only [B0, IntKind.wrap, IntKind.signed, IntKind.bits, Bool.false_and, Bool.false_eq_true, if_false]; omega
       · exact Cq
     · show B0 (if y.Kind = 9 then _ else 0)
       split
       · exact hy
       · exact Cq
   · exact ih _ (fun z hz => h z (List.mem_cons_of_mem _ hz)) x hx
end
structure WO (p : TPg) (l : Sl TEv) (t : Sl Int) (s : Sl AZ) (ok : Prop) : Prop where
 yes : ∀ m', Jn (aP p) l.L (CA (aP p)) = some m' → ok ∧ t.L = Ha l.L ∧ Gl s = UY (aP p) l.L (CA (aP p))
 no : Jn (aP p) l.L (CA (aP p)) = none → ¬ ok ∧ t.n = 0 ∧ s.n = 0
theorem Wg {p : TPg} (hp : Ib p) (hP : EZ (aP p)) {l : Sl TEv} (hl : Wl l) (hn : l.n ≤ 65536) :
 D_f9.wp (p, l) fun y => WO p l y.1 y.2.1 (y.2.2 = 0) ∧ (y.2.2 = 0 ∨ y.2.2 = 11) := by
 refine of_wp ?_
 simp only [tt_f9]
 refine wC (w_f3c p hp) fun (y : Bool) hy => AE bnI (fun z => absurd (hy.2 hP) z) fun _ => AE ilI (fun z => by omega) fun _ => wC (w_f1g p hp 0) fun (y : Bx TFa × Int) hy => ?_
 rcases hy with ⟨_, y2, yn, yF, ya⟩ | ⟨hno, _⟩
 rotate_left
 · exact absurd hP hno
 obtain ⟨hFC, ya⟩ := Vj hp (WU hp) hP yF ya
 refine wN (by simp [yn]) ?_
 refine DN (tt := tt_f9_7) (fun x : X_f9_7 => x.DS = l ∧ x.KS = l.n ∧ ∃ k : Nat, x.ET = k ∧ k ≤ l.n ∧ FC p (1 + k) k x.SM ∧ Jn (aP p) (l.L.take k) (CA (aP p)) = some (aF x.SM) ∧ x.DJ.L = Ha (l.L.take k) ∧ Gl x.BV = UY (aP p) (l.L.take k) (CA (aP p)))
  (fun x => (l.n - x.ET).toNat) (fun _ y => WO p l y.1 y.2.1 (y.2.2 = 0) ∧ (y.2.2 = 0 ∨ y.2.2 = 11)) (fun D x hI hD => ?_)
  ⟨rfl, rfl, 0, rfl, Nat.zero_le _, hFC, by rw [ya]; rfl, rfl, rfl⟩
 obtain ⟨tp, sc, l', q24, q25, f⟩ := x
 obtain ⟨e0, e1, k, e2, hk, hF, hall, htp, hsc⟩ := hI
 simp only at e0 e1 e2 hF hall htp hsc hD
 subst e0 e1 e2
 simp only [tt_f9_7]
 have tl : tp.n ≤ k := by
  have h1 := congrArg List.length htp
  have h2 := WK (l := l'.L.take k)
  simp only [Sl.Bb, List.length_take] at h1 h2
  omega
 have sl : sc.n = k := by
  have h1 := congrArg List.length hsc
  rw [Im, WM, List.length_take, Sl.Bb] at h1
  omega
 refine AE ilI (fun h => ?_) fun h => of_wp ?_
 · have hkm : k < l'.n := by omega
   refine wN (A2 hkm) ?_
   rw [Int.toNat_natCast]
   have hE := hl.e k hkm
   have hget : l'.L[k]? = some (l'.get k) := Sl.D2 _ hkm
   generalize l'.get k = e at *
   have L17 : ∀ (tp' : Sl Int) (x : AZ), tp'.L = Ha (l'.L.take (k + 1)) → Kq x = WW (aF f) e → (D_f9_17 D).wp ⟨tp', sc, l', (l'.n : Int), (k : Int), e, x, f⟩ fun y => WO p l' y.1 y.2.1 (y.2.2 = 0) ∧ (y.2.2 = 0 ∨ y.2.2 = 11) := fun tp' x h1 h2 => by
    refine of_wp ?_
    simp only [tt_f9_17]
    refine wC (OM hF hE (by omega) (by omega)) fun (w : Int × TFa) hw => ?_
    obtain ⟨w1, w2, w3⟩ := hw
    by_cases ha : Bf (aP p) (aF f) e = true
    · rw [IZ ha] at w1 w2
      refine AE (p := w.1 ≠ 0) (by rw [bnI, ieI]) (fun z => absurd w1 z) fun _ => wN (by simp [room]; omega) (of_wp ?_)
      simp only [tt_f9_20, Cu hkm hl.n]
      refine hD _ ⟨rfl, rfl, k + 1, rfl, hkm, by rw [show (1 : Int) + ((k + 1 : Nat) : Int) = 1 + k + 1 by omega]; exact w3, ?_, h1, ?_⟩ (by simp only; omega)
      · rw [WZ hall hget ha]; exact congrArg some w2.symm
      · simp only
        rw [We, WL hget, WX _ hall, hsc, h2]
    · have ha : Bf (aP p) (aF f) e = false := by simpa using ha
      have := (VG (p := aP p) (s := aF f) ha).1
      refine AE (p := w.1 ≠ 0) (by rw [bnI, ieI]) (fun _ => ?_) fun z => absurd (w1 ▸ this) z
      have hno := WY hall hget ha
      exact ⟨⟨fun m' hm => (by rw [hno] at hm; cases hm), fun _ => ⟨by simp, rfl, rfl⟩⟩, .inr rfl⟩
   have ht : Ha (l'.L.take (k + 1)) = if e.Kind = 10 then Ha (l'.L.take k) ++ [e.Value] else Ha (l'.L.take k) := by rw [WL hget, WT]
   have hfire : AW e.Kind 7 = decide (e.Kind = 7) := Bk (by rw [ieI, decide_eq_true_eq])
   refine AE ieI (fun q8 => wC (NB f) fun (y : Int) hy => L17 _ _ (by rw [ht, if_neg (by omega)]; exact htp) ?_) fun q8 => AE ieI (fun q9 => L17 _ _ (by rw [ht, if_neg (by omega)]; exact htp) ?_) fun q9 => AE ieI (fun q10 => wN (by simp [room]; omega) (L17 _ _ ?_ ?_)) fun q10 => L17 _ _ (by rw [ht, if_neg q10]; exact htp) ?_
   · subst hy
     simp only [Kq, WW, hfire, if_pos q8, if_neg (show ¬ e.Kind = 9 by omega)]
     rfl
   · simp only [Kq, WW, hfire, if_neg q8, if_pos q9]
   · rw [ht, if_pos q10, ← htp]; exact Wd _ _ _
   · simp only [Kq, WW, hfire, if_neg q8, if_neg q9]
   · simp only [Kq, WW, hfire, if_neg q8, if_neg q9]
 · have e : k = l'.n := by omega
   subst e
   have et : l'.L.take l'.n = l'.L := List.take_of_length_le (by simp)
   rw [et] at hall htp hsc
   simp only [tt_f9_21]
   exact ⟨⟨fun m' hm => ⟨rfl, htp, hsc⟩, fun hm => by rw [hall] at hm; cases hm⟩, .inl rfl⟩
theorem Wa {p : TPg} (hP : EZ (aP p)) {l : Sl TEv} (hl : Wl l) (hn : l.n ≤ 65536) {t : Sl Int} {s : Sl AZ} {ok : Prop} (h : WO p l t s ok) {m' : MS} (hm : Jn (aP p) l.L (CA (aP p)) = some m') :
 SJ t ∧ UP s ∧ s.n = l.n ∧ t.n ≤ l.n ∧ Be (aP p) t.L (Gl s) (Gk (CA (aP p))) = ⟨l.L, m', 0, 0⟩ := by
 obtain ⟨_, h1, h2⟩ := h.yes m' hm
 have big : (65536 : Nat) ≤ maxLen := by decide
 have hv : ∀ e ∈ l.L, B0 e.Value ∧ B0 e.AG := fun e he => by
  obtain ⟨i, hi, rfl⟩ := Sl.Ct.1 he
  exact ⟨(hl.e i hi).vl, (hl.e i hi).tk⟩
 have tn : t.n ≤ l.n := by
  have a := congrArg List.length h1
  have b := WK (l := l.L)
  simp only [Sl.Bb] at a b
  omega
 have sn : s.n = l.n := by
  have a := congrArg List.length h2
  rwa [Im, WM, Sl.Bb] at a
 refine ⟨⟨by omega, fun i hi => ?_⟩, ⟨by omega, fun i hi => ?_⟩, sn, tn, ?_⟩
 · have : t.get i ∈ Ha l.L := by rw [← h1]; exact Sl.Ct.2 ⟨i, hi, rfl⟩
   unfold Ha at this
   obtain ⟨e, he, hx⟩ := List.mem_map.1 this
   rw [← hx]
   exact (hv e (List.mem_filter.1 he).1).1
 · have : Kq (s.get i) ∈ UY (aP p) l.L (CA (aP p)) := by rw [← h2]; exact List.mem_of_getElem? (QY hi)
   have := Wf l.L (CA (aP p)) (fun e he => (hv e he).1) _ this
   exact ⟨this.1, this.2⟩
 · have := Vp (p := aP p) l.L [] (Gk (CA (aP p))) (Ql hP) (by simp; omega) hv hm rfl rfl (by simp; omega)
   rw [h1, h2]
   exact this
theorem R3 (p : TPg) (tape : Sl Int) (script : Sl AZ) (hp : Ib p) (ht : SJ tape) (hs : UP script) : D_f4m.wp (p, (tape, script)) fun y => y = true := by
 refine of_wp ?_
 simp only [tt_f4m]
 have aw : ∀ {k : Bool → TT Tryz.prog R_f4m} {Q}, (k true).wp Q → (TT.call con_f3i PUnit.unit k).wp Q := fun h => wC TD fun (y : Bool) hy => by subst hy; exact h
 refine aw (Aq (fun h => by simp at h) fun _ => ?_)
 refine wC (Wk p hp) fun (y : Bool) hy => AE bnI (fun _ => aw rfl) fun hf => AE ilI (fun _ => aw rfl) fun hl1 => AE ilI (fun _ => aw rfl) fun hl2 => of_wp ?_
 have hP := hy (Classical.byContradiction hf)
 have big : (65536 : Nat) ≤ maxLen := by decide
 simp only [tt_f4m_3]
 refine wC (VQ hp (WU hp) ht hs) fun (a : Ap × Int) ha => ?_
 obtain ⟨a2, hA⟩ := ha.1 ⟨hP, by omega, by omega⟩
 have cA := hA.cnt
 rw [Im] at cA
 have hlE : Wl a.1.Ay := ⟨by omega, hA.ee⟩
 have hall : Jn (aP p) a.1.Ay.L (CA (aP p)) = some (aS a.1.State) := by
  rw [hA.ev, hA.st]; exact SC _ _ rfl
 refine wC (Wg hp hP hlE (by omega)) fun (y : Sl Int × Sl AZ × Int) hy => ?_
 obtain ⟨hy, _⟩ := hy
 obtain ⟨y2, _, _⟩ := hy.yes _ hall
 obtain ⟨ht2, hs2, hsn, htn, hrun⟩ := Wa hP hlE (by omega) hy hall
 refine wC (VQ hp (WU hp) ht2 hs2) fun (b : Ap × Int) hb => ?_
 obtain ⟨b2, hB⟩ := hb.1 ⟨hP, by omega, by omega⟩
 refine AE ieI (fun _ => AE ieI (fun _ => AE ieI (fun _ => ?_) fun w => absurd b2 w) fun w => absurd y2 w) fun w => absurd a2 w
 refine wC (TE _ _ ?_ (by omega)) fun (u : Bool) hu => Aq (fun _ => ?_) fun w => absurd hu w
 · rw [hB.ev, hrun]
 · exact wC (w_fi _ _ (by rw [hB.st, hrun]) hA.len) fun (v : Bool) hv => hv
def ok_TRg (x : TRg) : Prop := (fun n => (Lit.int .i64 n).wf = true) x.Kind ∧ (fun n => (Lit.int .i64 n).wf = true) x.DP ∧ (fun n => (Lit.int .i64 n).wf = true) x.AR ∧ True
def fl_TRg_0 : Field := (Gc Tryz.prog 87).toList.getD 0 default
def fl_TRg_1 : Field := (Gc Tryz.prog 87).toList.getD 1 default
def fl_TRg_2 : Field := (Gc Tryz.prog 87).toList.getD 2 default
theorem op_TRg : EI Tryz.prog 87 e_TRg ok_TRg :=
 EI.map (Fa (fs := Gc Tryz.prog 87) (l := fl_TRg_0 :: fl_TRg_1 :: fl_TRg_2 :: []) (by kernel_rfl) (by kernel_rfl) (by kernel_rfl)
  (Bz (u := 3) (s := 1) (by kernel_rfl) (by kernel_rfl) (by kernel_rfl) (Ck (k := .i64) (by kernel_rfl)) (Bz (u := 3) (s := 1) (by kernel_rfl) (by kernel_rfl) (by kernel_rfl) (Ck (k := .i64) (by kernel_rfl)) (Bz (u := 3) (s := 1) (by kernel_rfl) (by kernel_rfl) (by kernel_rfl) (Ck (k := .i64) (by kernel_rfl)) Hm)))) (fun x => ⟨x.1, x.2.1, x.2.2.1⟩) (fun _ => rfl) (fun _ h => h)
def ok_TIn (x : TIn) : Prop := (fun n => (Lit.int .i64 n).wf = true) x.Op ∧ (fun n => (Lit.int .i64 n).wf = true) x.A ∧ (fun n => (Lit.int .i64 n).wf = true) x.B ∧ (fun n => (Lit.int .i64 n).wf = true) x.C ∧ (fun n => (Lit.int .i64 n).wf = true) x.D ∧ (fun n => (Lit.int .u64 n).wf = true) x.K ∧ True
def fl_TIn_0 : Field := (Gc Tryz.prog 124).toList.getD 0 default
def fl_TIn_1 : Field := (Gc Tryz.prog 124).toList.getD 1 default
def fl_TIn_2 : Field := (Gc Tryz.prog 124).toList.getD 2 default
def fl_TIn_3 : Field := (Gc Tryz.prog 124).toList.getD 3 default
def fl_TIn_4 : Field := (Gc Tryz.prog 124).toList.getD 4 default
def fl_TIn_5 : Field := (Gc Tryz.prog 124).toList.getD 5 default
theorem op_TIn : EI Tryz.prog 124 e_TIn ok_TIn :=
 EI.map (Fa (fs := Gc Tryz.prog 124) (l := fl_TIn_0 :: fl_TIn_1 :: fl_TIn_2 :: fl_TIn_3 :: fl_TIn_4 :: fl_TIn_5 :: []) (by kernel_rfl) (by kernel_rfl) (by kernel_rfl)
  (Bz (u := 3) (s := 1) (by kernel_rfl) (by kernel_rfl) (by kernel_rfl) (Ck (k := .i64) (by kernel_rfl)) (Bz (u := 3) (s := 1) (by kernel_rfl) (by kernel_rfl) (by kernel_rfl) (Ck (k := .i64) (by kernel_rfl)) (Bz (u := 3) (s := 1) (by kernel_rfl) (by kernel_rfl) (by kernel_rfl) (Ck (k := .i64) (by kernel_rfl)) (Bz (u := 3) (s := 1) (by kernel_rfl) (by kernel_rfl) (by kernel_rfl) (Ck (k := .i64) (by kernel_rfl)) (Bz (u := 3) (s := 1) (by kernel_rfl) (by kernel_rfl) (by kernel_rfl) (Ck (k := .i64) (by kernel_rfl)) (Bz (u := 36) (s := 1) (by kernel_rfl) (by kernel_rfl) (by kernel_rfl) (Ck (k := .u64) (by kernel_rfl)) Hm))))))) (fun x => ⟨x.1, x.2.1, x.2.2.1, x.2.2.2.1, x.2.2.2.2.1, x.2.2.2.2.2.1⟩) (fun _ => rfl) (fun _ h => h)
def ok_TPg (x : TPg) : Prop := (Ol ok_TRg) x.AF ∧ (Ol (Ol ok_TIn)) x.AB ∧ True
def fl_TPg_0 : Field := (Gc Tryz.prog 25).toList.getD 0 default
def fl_TPg_1 : Field := (Gc Tryz.prog 25).toList.getD 1 default
theorem op_TPg : EI Tryz.prog 25 e_TPg ok_TPg :=
 EI.map (Fa (fs := Gc Tryz.prog 25) (l := fl_TPg_0 :: fl_TPg_1 :: []) (by kernel_rfl) (by kernel_rfl) (by kernel_rfl)
  (Bz (u := 22) (s := 1) (by kernel_rfl) (by kernel_rfl) (by kernel_rfl) (FK (e := 87) (s := 3) (d_TRg .undef) (by kernel_rfl) (by kernel_rfl) (by decide) (op_TRg)) (Bz (u := 23) (s := 1) (by kernel_rfl) (by kernel_rfl) (by kernel_rfl) (FK (e := 116) (s := 1) (dsl_TIn .undef) (by kernel_rfl) (by kernel_rfl) (by decide) (FK (e := 124) (s := 6) (d_TIn .undef) (by kernel_rfl) (by kernel_rfl) (by decide) (op_TIn))) Hm))) (fun x => ⟨x.1, x.2.1⟩) (fun _ => rfl) (fun _ h => h)
def FE (x : AZ) : Prop := (fun n => (Lit.int .i64 n).wf = true) x.Bj ∧ (fun n => (Lit.int .u64 n).wf = true) x.Du ∧ (fun n => (Lit.int .u64 n).wf = true) x.Gj ∧ (fun _ => True) x.Hh ∧ True
def KY : Field := (Gc Tryz.prog 41).toList.getD 0 default
def KX : Field := (Gc Tryz.prog 41).toList.getD 1 default
def KW : Field := (Gc Tryz.prog 41).toList.getD 2 default
def KV : Field := (Gc Tryz.prog 41).toList.getD 3 default
theorem MN : EI Tryz.prog 41 Bg FE :=
 EI.map (Fa (fs := Gc Tryz.prog 41) (l := KY :: KX :: KW :: KV :: []) (by kernel_rfl) (by kernel_rfl) (by kernel_rfl)
  (Bz (u := 3) (s := 1) (by kernel_rfl) (by kernel_rfl) (by kernel_rfl) (Ck (k := .i64) (by kernel_rfl)) (Bz (u := 36) (s := 1) (by kernel_rfl) (by kernel_rfl) (by kernel_rfl) (Ck (k := .u64) (by kernel_rfl)) (Bz (u := 36) (s := 1) (by kernel_rfl) (by kernel_rfl) (by kernel_rfl) (Ck (k := .u64) (by kernel_rfl)) (Bz (u := 4) (s := 1) (by kernel_rfl) (by kernel_rfl) (by kernel_rfl) (Py (by kernel_rfl)) Hm))))) (fun x => ⟨x.1, x.2.1, x.2.2.1, x.2.2.2.1⟩) (fun _ => rfl) (fun _ h => h)
theorem MV : PN Tryz.prog 25 e_TPg ok_TPg :=
 Ng (fs := Gc Tryz.prog 25) (by kernel_rfl) op_TPg (fun _ => rfl) (fun _ => rfl)
theorem VM {p : TPg} (h : ok_TPg p) : Ib p := by
 obtain ⟨⟨rz, rn, rr⟩, ⟨_, tn, tt⟩, _⟩ := h
 refine ⟨rn, tn, fun t ht => (tt t ht).2.1, fun t ht k hk => ?_, rz, fun t ht => (tt t ht).1⟩
 obtain ⟨_, a, b, c, d, k, _⟩ := (tt t ht).2.2 k hk
 have a := wf_i64 a; have b := wf_i64 b; have c := wf_i64 c; have d := wf_i64 d
 exact ⟨wf_u64 k, by omega, by omega, by omega, by omega⟩
theorem UR {x : AZ} (h : FE x) : P0 x := by
 obtain ⟨_, c, d, _⟩ := h
 exact ⟨wf_u64 c, wf_u64 d⟩
theorem Nh : PN Tryz.prog 27 BX (Ol FE) :=
 Lf (KF (e := 41) (by kernel_rfl)) (FK (e := 41) (s := 4) (Bo .undef) (by kernel_rfl) (by kernel_rfl) (by decide) MN) (fun _ => rfl) (fun _ => rfl)
theorem UO {l : Sl AZ} (h : Ol FE l) : UP l := ⟨h.2.1, fun i hi => UR (h.2.2 i hi)⟩
theorem QC : PN Tryz.prog 26 BG (Ol fun n => (Lit.int .u64 n).wf = true) :=
 Lf (KF (e := 36) (by kernel_rfl)) (FK (e := 36) (s := 1) (dI .undef) (by kernel_rfl) (by kernel_rfl) (by decide) (Ck (k := .u64) (by kernel_rfl))) (fun _ => rfl) (fun _ => rfl)
theorem VL {l : Sl Int} (h : Ol (fun n => (Lit.int .u64 n).wf = true) l) : SJ l := ⟨h.2.1, fun i hi => wf_u64 (h.2.2 i hi)⟩

open Go.ChangeShapes Go.WideShapes Go.ChangeAt Go.RowKit
theorem Tryz.own : ownKnob Tryz.prog.godebug = none := by kernel_rfl
theorem Tryz.laidOut : laidOutB Tryz.prog = true := by kernel_rfl
theorem Tryz.Vx : mapsRowed Tryz.prog = true := by kernel_rfl
theorem Tryz.full : ∀ t e, t < Tryz.prog.types.size → Tryz.prog.underlying t = some (.slice e) → 0 < Tryz.prog.cellsOf e := slices_full_of Tryz.prog (by kernel_rfl)
def OA : Value := .agg #[.slice none 0 0, .slice none 0 0]
open Go.ChangeShapes Go.WideShapes Go.ChangeAt Go.RowKit
theorem Bh (os : Os) (started : os.Started) (H : Type) (enc : TypeId × Value → H) :
 ReturnsInHanded {} Tryz.checked os 7 .any (Rows.worldSameSpec.pre6 enc Tryz.prog Tryz.f7 Rows.worldSameRow.domain false) (Rows.worldSameSpec.post enc Tryz.prog Tryz.f7 false true false false) := by
 refine lifted (tb := 4) (C := Tryz.checked) Tryz.own started (by kernel_rfl) Tryz.func7
  (ChangeSpec.witness6 (enc := enc) (C := Tryz.checked) false ⟨#[], #[OA, .slice none 0 0, .slice none 0 0], []⟩ 8 (by kernel_rfl) (by kernel_rfl) (by kernel_rfl) (by kernel_rfl)) Tryz.laidOut Tryz.Vx Tryz.full
  (by kernel_rfl) rfl rfl (by kernel_rfl) ?_ ?_
 · intro ds hl
   match ds, hl with
   | [_, _, _], _ => rfl
 · intro W base args ds ps hval hA
   rw [Tryz.params7] at hA hval
   obtain ⟨v0, v1, v2, d0, d1, d2, p0, p1, p2, rfl, rfl, rfl, h0, h1, h2⟩ := trodAll_three hA
   obtain ⟨a, ha, ra⟩ := MV H enc W base v0 d0 p0 (hval 0 25 v0 rfl rfl) h0
   obtain ⟨b, hb, rb⟩ := QC H enc W base v1 d1 p1 (hval 1 26 v1 rfl rfl) h1
   obtain ⟨c, hc, rc⟩ := Nh H enc W base v2 d2 p2 (hval 2 27 v2 rfl rfl) h2
   obtain ⟨y, hy, rfl⟩ := R3 a b c (VM ha) (VL hb) (UO hc)
   refine QN (con_f4m.ok (a, (b, c)) true hy) (fun j x v hx hv => ?_) rfl
   match j, hx, hv with
   | 0, hx, hv => change some (e_TPg a) = some x at hx; cases hx; simp at hv; subst hv; exact ra
   | 1, hx, hv => change some (BG b) = some x at hx; cases hx; simp at hv; subst hv; exact rb
   | 2, hx, hv => change some (BX c) = some x at hx; cases hx; simp at hv; subst hv; exact rc
theorem worldSame_holds : Rows.WorldSameSaid :=
 OpenClaim.holds_of_wide 7 Tryz.f7 rfl rfl rfl rfl rfl rfl rfl ⟨rfl, rfl, rfl, rfl, rfl⟩ rfl rfl rfl rfl rfl (by kernel_rfl) Tryz.func7 (by kernel_rfl)
  (of_decide_eq_true (by kernel_rfl)) (by unfold Func.isWrapper; first | (rw [if_pos (by decide +kernel)]; kernel_rfl) | (rw [if_neg (by decide +kernel)]; exact ⟨rfl, rfl⟩))
  (fun os started H enc _ => Bh os started H enc)
end Go.Proofs.YtiamaibincaihaaGreat
end
